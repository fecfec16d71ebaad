import Derived.Test.YtclgengkohbjjaaGreatDoorR4EdD
namespace Go.Proofs.YtclgengkohbjjaaGreatDoor.M
set_option linter.unusedVariables false
set_option linter.unusedSimpArgs false
open Go Go.Mir
set_option linter.unusedVariables false
theorem innerPut_ok {G:Hd} {h i:Nat} {lo hi lo' hi':ByteArray} {n:Nd} {s:Spl} {P1 P2 P3:List Pr} {B1 B2 B3:List Int} (hs:Stands n) (h8:n.keys.length≤8) (hl:n.leaf=false) (hw:∀k∈n.keys,within k lo hi=true) (hic:i≤n.keys.length)
   (hsp:SplOK G h false lo' hi' s P2 B2)
   (hsep:∀s,lt lo' s=true→within s lo' hi'=true→(∀k∈n.keys.take i,lt k s=true)∧(∀k∈n.keys.drop i,lt s k=true)∧within s lo hi=true)
   (hS1:∀c' P' B',Tr G h c' false lo' hi' P' B'→KTr (fun c lo hi P B=>Tr G h c false lo hi P B) lo hi n.keys (n.kids.set i c') (P1++(P'++P3)) (B1++(B'++B3)))
   (hS2:∀l r s Pl Bl Pr Br,Tr G h l false lo' s Pl Bl→Tr G h r false s hi' Pr Br→KTr (fun c lo hi P B=>Tr G h c false lo hi P B) lo hi (insAt n.keys i s) (insAt (n.kids.set i l) (i+1) r) (P1++((Pl++Pr)++P3)) (B1++((Bl++Br)++B3)))
   (hrg:∀c lo hi P B,Tr G h c false lo hi P B→10≤c∧c<2048):
   Stands (innerPut n i s)∧(innerPut n i s).keys.length≤9∧n.keys.length≤(innerPut n i s).keys.length∧Cont G h lo hi (innerPut n i s) (P1++(P2++P3)) (B1++(B2++B3)):=by
 have hr:=(kok_iff.1 hs.2.1).1
 have hz:=(kok_iff.1 hs.2.1).2
 obtain ⟨s1,s2,⟨hx,_⟩|⟨_,v1,v2,v3,v4⟩⟩:=hs
 · rw[hl]at hx;cases hx
 unfold innerPut
 rcases hsp with ⟨ht,hT⟩|⟨ht,k1,k2,k3,k4,Pl,Bl,Pr,Br,t1,t2,rfl,rfl⟩
 · rw[ht,if_neg (by simp)]
   refine ⟨⟨s1,s2,.inr ⟨hl,v1,v2,by simpa using v3,fun b hb => ?_⟩⟩,s1,Nat.le_refl _,hw,.inr ⟨hl,hS1 _ _ _ hT⟩⟩
   rcases List.mem_or_eq_of_mem_set hb with h|rfl
   · exact v4 b h
   · exact hrg _ _ _ _ _ hT
 · rw[ht,if_pos rfl]
   obtain ⟨g1,g2,g3⟩:=hsep _ k2 k1
   have hlen:=insAt_len s.key hic
   have hlk:=insAt_len (l:=n.kids.set i s.left) (i:=i+1) s.right (by simp;omega)
   rw[List.length_set]at hlk
   refine ⟨⟨by dsimp only;omega,kok_iff.2 ⟨rise_ins hr g1 g2,fun k hx => ?_⟩,.inr ⟨hl,v1,by dsimp only;omega,by dsimp only;omega,fun b hb => ?_⟩⟩,by dsimp only;omega,by dsimp only;omega,fun k hx => ?_,.inr ⟨hl,hS2 _ _ _ _ _ _ _ t1 t2⟩⟩
   · rcases insAt_mem.1 hx with rfl|h
     · exact ⟨k3,k4⟩
     · exact hz k h
   · rcases insAt_mem.1 hb with rfl|h
     · exact hrg _ _ _ _ _ t2
     · rcases List.mem_or_eq_of_mem_set h with h|rfl
       · exact v4 b h
       · exact hrg _ _ _ _ _ t1
   · rcases insAt_mem.1 hx with rfl|h
     · exact g3
     · exact hw k h
theorem tr_rg {w:Wd} (hn:w.now.length≤2048) {h:Nat} {c:Int} {r:Bool} {lo hi:ByteArray} {P:List Pr} {B:List Int} (ht:Tr (Hold w) h c r lo hi P B):10≤c∧c<2048:=by
 cases h with
 | zero=>exact ht.elim
 | succ h=>
   obtain ⟨n,B0,h1,_,_⟩:=tr_get ht
   have:=hold_rg hn h1
   omega
theorem load_ok {e:Ed} {b d:Int} {n:Nd} (he:e.bad=0) (hn:Hold e.w b (d==1)=some n) (hd:d≤8):loadE e b d=(n,e):=by
 unfold loadE
 rw[if_neg (by rw[he];simp),hn]
 dsimp only
 rw[if_neg (by omega)]
theorem tr_held {w:Wd} {h:Nat} {c:Int} {r:Bool} {lo hi:ByteArray} {P:List Pr} {B:List Int} (ht:Tr (Hold w) h c r lo hi P B) (hn:w.now.length≤2048):∀x∈B,tr w.now x.toNat=true∧10≤x:=fun x hx=>by
 obtain ⟨r,m,hm⟩:=ht.held x hx
 exact ⟨hold_tr hm,(hold_rg hn hm).1⟩
theorem Fr.fresh {w x:Wd} {O N W:List Int} (h:Fr w x O N W) {b:Int} (hb:b∈N) (hO:b∉O):tr w.now b.toNat=false:=by
 rcases h.kept b hb with e|e
 · exact ((h.wr b e).2.2.2.2.1).resolve_left hO
 · exact absurd e hO
set_option maxHeartbeats 1000000 in
theorem put_ok {key val:ByteArray} (hk:1≤key.size∧key.size≤32) (hv:val.size≤200):∀(f h:Nat) (e:Ed) (b d:Int) (lo hi:ByteArray) (P:List Pr) (B:List Int),e.bad=0→WRight e.w→Tr (Hold e.w) h b (d==1) lo hi P B→B.Nodup→within key lo hi=true→1≤d→d - 1+h≤8→h≤f →
   ((putE key val f e b d).2.bad=60∧cnt e.w<2*h)∨((putE key val f e b d).2.bad=0∧WRight (putE key val f e b d).2.w∧cnt e.w≤cnt (putE key val f e b d).2.w+2*h∧∃B' W,Fr e.w (putE key val f e b d).2.w B B' W∧B'.Nodup∧SplOK (Hold (putE key val f e b d).2.w) h (d==1) lo hi (putE key val f e b d).1 (withP key val P) B')
 | f,0,e,b,d,lo,hi,P,B,_,_,ht,_,_,_,_,_=>ht.elim
 | 0,h+1,e,b,d,lo,hi,P,B,_,_,ht,_,_,_,_,hf=>by omega
 | f+1,h+1,e,b,d,lo,hi,P,B,he,hr,ht,hu,hw,hd,h8,hf=>by
   have hnow:=wr_now hr
   have hheld:=tr_held ht hnow
   obtain ⟨n,B0,hn,hc,rfl⟩:=tr_get ht
   have hok:=hold_ok hn
   obtain ⟨ub,u0⟩:=List.nodup_cons.1 hu
   unfold putE
   rw[load_ok he hn (by omega)]
   dsimp only
   rw[if_neg (by rw[he];simp)]
   obtain ⟨d1,d2,d3,d4⟩:=drop_ok he hr hn
   generalize dropE e b=e1 at d1 d2 d3 d4 ⊢
   have hc1:Cont (Hold e1.w) h lo hi n P B0:=hc.frame fun x hx r m hm=>d3.hold (by
     intro hxb
     obtain rfl:x=b:=by simpa using hxb
     exact ub hx) hm
   cases hl:n.leaf with
   | true=>
     rw[if_pos rfl]
     obtain ⟨p1,p2,p3,p4⟩:=leafPut_ok hk hv hok.1 hok.2.1 hl hw hc1
     rcases keep_ok (root:=d==1) d1 d2 p1 p2 (hok.2.2.imp id fun h=>by omega) p4 u0 with ⟨a1,a2⟩|⟨a1,a2,a3,B',X,a4,a5,a6,a7⟩
     · exact .inl ⟨a1,by omega⟩
     · have hfr:=(d3.trans a4 (by simp)).keep B0 (fun x hx=>⟨(hheld x (by simp[hx])).1,fun hxb=>by
         obtain rfl:x=b:=by simpa using hxb
         exact ub hx,by have:=(hheld x (by simp[hx])).2;omega⟩)
       exact .inr ⟨a1,a2,by omega,B',_,hfr.congr (fun x=>by simp) (fun x=>by rw[a6];simp),a5,a7⟩
   | false=>
     rw[if_neg (by simp)]
     obtain ⟨c1,⟨hx,_⟩|⟨_,c2⟩⟩:=hc1
     · rw[hl]at hx;cases hx
     obtain ⟨kr,kz⟩:=kok_iff.1 hok.1.2.1
     obtain ⟨c,lo',hi',P1,P2,P3,B1,B2,B3,q1,q2,q3,rfl,rfl,q6,q7,q8,q9⟩:=ktr_at (key:=key) (fun c lo hi P B hc=>hc.within (hold_hok _)) c2 kr (fun k hk e=>by have:=(kz k hk).1;rw[e]at this;exact absurd this (by decide)) c1 hw
     rw[q1]
     simp only[Option.getD_some]
     have e2:(d+1==1)=false:=by simp;omega
     have ih:=put_ok hk hv f h e1 c (d+1) lo' hi' P2 B2 d1 d2 (by rw[e2];exact q2) (by
       exact (List.nodup_append.1 (List.nodup_append.1 u0).2.1).1) q3 (by omega) (by omega) (by omega)
     rw[e2]at ih
     generalize putE key val f e1 c (d+1)=r at ih ⊢
     rcases ih with ⟨a1,a2⟩|⟨a1,a2,a3,B',W,a4,a5,a6⟩
     · rw[if_pos (by rw[a1];decide)]
       exact .inl ⟨a1,by omega⟩
     · rw[if_neg (by rw[a1];simp)]
       have hd13:∀x,x∈B1∨x∈B3→x∉B2:=fun x hx hx2=>by
         obtain ⟨n1,n2,n3⟩:=List.nodup_append.1 u0
         obtain ⟨n4,n5,n6⟩:=List.nodup_append.1 n2
         rcases hx with hx|hx
         · exact n3 x hx x (by simp[hx2]) rfl
         · exact n6 x hx2 x hx rfl
       obtain ⟨hS1,hS2⟩:=q9 (fun c lo hi P B=>Tr (Hold r.2.w) h c false lo hi P B) (fun c lo hi P B' hB hT=>Tr.frame (fun x hx r m hm=>a4.hold (hd13 x (hB x hx)) hm) hT)
       have hnow3:=wr_now a2
       obtain ⟨p1,p2,p3,p4⟩:=innerPut_ok hok.1 hok.2.1 hl c1 (kidOf_le _ _) a6 q8 hS1 hS2 (fun c lo hi P B hT=>tr_rg hnow3 hT)
       have hsib:∀x,x∈B1∨x∈B3→x∉B':=fun x hx hx2=>by
         have h1:=(hheld x (by rcases hx with h|h <;> simp[h])).1
         have h2:=(a4.fresh hx2 (hd13 x hx))
         have hxb:x≠b:=fun e=>by
           subst e
           exact ub (by rcases hx with h|h <;> simp[h])
         have hx10:=(hheld x (by rcases hx with h|h <;> simp[h])).2
         obtain ⟨r0,m,hm⟩:=ht.held x (by rcases hx with h|h <;> simp[h])
         have h3:=hold_tr (d3.hold (by simpa using hxb) hm)
         rw[h3]at h2;cases h2
       have hnd:(B1++(B'++B3)).Nodup:=by
         obtain ⟨n1,n2,n3⟩:=List.nodup_append.1 u0
         obtain ⟨n4,n5,n6⟩:=List.nodup_append.1 n2
         refine List.nodup_append.2 ⟨n1,List.nodup_append.2 ⟨a5,n5,fun x hx y hy e => ?_⟩,fun x hx y hy e => ?_⟩
         · subst e;exact hsib x (.inr hy) hx
         · subst e
           rcases List.mem_append.1 hy with hy|hy
           · exact hsib x (.inl hx) hy
           · exact n3 x hx x (by simp[hy]) rfl
       rcases keep_ok (root:=d==1) a1 a2 p1 p2 (hok.2.2.imp id fun h=>by omega) p4 hnd with ⟨g1,g2⟩|⟨g1,g2,g3,B'',X,g4,g5,g6,g7⟩
       · exact .inl ⟨g1,by omega⟩
       · have hfr:=((d3.trans a4 (by simp)).trans g4 (by simp)).keep (B1++B3) (fun x hx=>by
           have hx:=List.mem_append.1 hx
           have hm:x∈b :: (B1++(B2++B3)):=by rcases hx with h|h <;> simp[h]
           refine ⟨(hheld x hm).1,fun hxo => ?_,by have:=(hheld x hm).2;omega⟩
           have hxb:x≠b:=fun e=>by
             subst e
             exact ub (by rcases hx with h|h <;> simp[h])
           have:x∈B2:=by simpa[hxb] using hxo
           exact hd13 x hx this)
         refine .inr ⟨g1,g2,by omega,B'',_,hfr.congr (fun x => ?_) (fun x => ?_),g5,?_⟩
         · simp only[List.mem_append,List.mem_cons,List.not_mem_nil,or_false]
           constructor
           · rintro ((h|h)|(h|h)) <;> simp[h]
           · rintro (h|h|h|h) <;> simp[h]
         · rw[g6]
           simp only[List.mem_append,List.nil_append]
           constructor
           · rintro ((h|h)|(h|h)) <;> simp[h]
           · rintro (h|h|h|h) <;> simp[h]
         · rw[withP_mid q6 q7];exact g7
structure Inv (w:Wd) (e:Ed):Prop where
 right:WRight e.w
 base:e.w.base=w.base
 gen:e.w.gen=w.gen
 root:e.w.root=w.root
 nlen:e.w.now.length=w.now.length
 page:∀b:Int,0≤b→tr w.base b.toNat=true→pgAt e.w b=pgAt w b
 bad:e.bad=0∨e.bad=60∨e.bad=81
theorem Inv.start {w:Wd} (h:WRight w):Inv w ⟨w,0⟩:=⟨h,rfl,rfl,rfl,rfl,fun _ _ _=>rfl,.inl rfl⟩
theorem Inv.tree {w:Wd} {e:Ed} (h:Inv w e):Inv w { e with bad:=81 }:=⟨h.right,h.base,h.gen,h.root,h.nlen,h.page,.inr (.inr rfl)⟩
theorem Inv.step {w:Wd} {e e':Ed} {O N W:List Int} (h:Inv w e) (f:Fr e.w e'.w O N W) (hr:WRight e'.w) (hb:e'.bad=0∨e'.bad=60∨e'.bad=81):Inv w e' where
 right:=hr
 base:=f.base.trans h.base
 gen:=f.gen.trans h.gen
 root:=f.root.trans h.root
 nlen:=f.nlen.trans h.nlen
 page b hb ht:=by
  rw[f.page b hb fun hw => ?_,h.page b hb ht]
  have:=(f.wr b hw).2.2.2.1
  rw[h.base,ht]at this;cases this
 bad:=hb
def Blk (w:Wd) (b:Int):Prop:=10≤b∧b<w.now.length
theorem store_inv {w:Wd} {e:Ed} {n:Nd} (h:Inv w e):Inv w (storeE e n).2∧((storeE e n).2.bad=0→e.bad=0∧Blk w (storeE e n).1):=by
 by_cases he:e.bad=0
 · by_cases hok:NdOK n true
   · rcases store_ok he h.right hok with ⟨a1,a2,a3⟩|⟨a1,a2,a3,a4,a5,a6⟩
     · refine ⟨⟨by rw[a3];exact h.right,by rw[a3];exact h.base,by rw[a3];exact h.gen,by rw[a3];exact h.root,by rw[a3];exact h.nlen,by rw[a3];exact h.page,.inr (.inl a1)⟩,fun hb => ?_⟩
       rw[a1]at hb;cases hb
     · refine ⟨h.step a3 a2 (.inl a1),fun _=>⟨he,?_⟩⟩
       have:=a3.wr (storeE e n).1 (by simp)
       rw[h.nlen]at this
       exact ⟨this.2.1,this.2.2.1⟩
   · unfold storeE
     rw[if_neg (by rw[he];simp),if_pos hok]
     exact ⟨h.tree,fun hb=>by cases hb⟩
 · rw[store_bad he]
   exact ⟨h,fun hb=>absurd hb he⟩
theorem load_inv {w:Wd} {e:Ed} {b d:Int} (h:Inv w e):Inv w (loadE e b d).2∧((loadE e b d).2.bad=0→e.bad=0∧(loadE e b d).2=e∧Hold e.w b (d==1)=some (loadE e b d).1∧d≤8):=by
 unfold loadE
 by_cases he:e.bad=0
 · rw[if_neg (by rw[he];simp)]
   cases hh:Hold e.w b (d==1) with
   | none=>exact ⟨h.tree,fun hb=>by cases hb⟩
   | some n=>
     dsimp only
     by_cases hd:d > 8
     · rw[if_pos hd];exact ⟨h.tree,fun hb=>by cases hb⟩
     · rw[if_neg hd];exact ⟨h,fun _=>⟨he,rfl,rfl,by omega⟩⟩
 · rw[if_pos he]
   exact ⟨h,fun hb=>absurd hb he⟩
theorem drop_inv {w:Wd} {e:Ed} {b:Int} {r:Bool} {n:Nd} (h:Inv w e) (he:e.bad=0) (hh:Hold e.w b r=some n):Inv w (dropE e b)∧(dropE e b).bad=0:=by
 obtain ⟨a1,a2,a3,a4⟩:=drop_ok he h.right hh
 exact ⟨h.step a3 a2 (.inl a1),a1⟩
theorem keep_inv {w:Wd} {e:Ed} {n:Nd} (h:Inv w e):Inv w (keepE e n).2∧((keepE e n).2.bad=0→Blk w (keepE e n).1.left∧((keepE e n).1.two=true→Blk w (keepE e n).1.right)):=by
 unfold keepE
 by_cases h8:n.keys.length≤8
 · rw[if_pos h8]
   obtain ⟨a1,a2⟩:=store_inv (n:=n) h
   exact ⟨a1,fun hb=>⟨(a2 hb).2,fun h=>by cases h⟩⟩
 · rw[if_neg h8]
   by_cases hs:Stands n∧n.keys.length=9
   · rw[if_neg (by simpa using hs)]
     obtain ⟨a1,a2⟩:=store_inv (n:=cutL n) h
     obtain ⟨b1,b2⟩:=store_inv (n:=cutR n) a1
     exact ⟨b1,fun hb=>⟨(a2 (b2 hb).1).2,fun _=>(b2 hb).2⟩⟩
   · rw[if_pos hs]
     exact ⟨h.tree,fun hb=>by cases hb⟩
theorem put_inv {w:Wd} {key val:ByteArray}:∀(f:Nat) (e:Ed) (b d:Int),Inv w e →
   Inv w (putE key val f e b d).2∧((putE key val f e b d).2.bad=0→Blk w (putE key val f e b d).1.left∧((putE key val f e b d).1.two=true→Blk w (putE key val f e b d).1.right))
 | 0,e,b,d,h=>⟨h.tree,fun hb=>by cases hb⟩
 | f+1,e,b,d,h=>by
   unfold putE
   dsimp only
   obtain ⟨a1,a2⟩:=load_inv (b:=b) (d:=d) h
   by_cases hb:(loadE e b d).2.bad=0
   · rw[if_neg (by rw[hb];simp)]
     obtain ⟨c1,c2,c3,c4⟩:=a2 hb
     rw[c2]
     generalize (loadE e b d).1=n at c3 ⊢
     obtain ⟨d1,d2⟩:=drop_inv h c1 c3
     by_cases hl:n.leaf=true
     · rw[if_pos hl];exact keep_inv d1
     · rw[if_neg hl]
       have ih:=put_inv (key:=key) (val:=val) f (dropE e b) ((n.kids[kidOf n.keys key]?).getD 0) (d+1) d1
       by_cases hr:(putE key val f (dropE e b) ((n.kids[kidOf n.keys key]?).getD 0) (d+1)).2.bad=0
       · rw[if_neg (by rw[hr];simp)];exact keep_inv ih.1
       · rw[if_pos hr];exact ⟨ih.1,fun hb=>absurd hb hr⟩
   · rw[if_pos hb]
     exact ⟨a1,fun h=>absurd h hb⟩
def wd0:Wd:=⟨[],[],[],0,0⟩
noncomputable def endE (e:Ed):Wd×Int:=if e.bad≠0 then (wd0,e.bad) else (e.w,0)
noncomputable def setRoot (r:Int×Ed):Ed := { r.2 with w := { r.2.w with root:=r.1 } }
def isPair (key val:ByteArray):Prop:=1≤key.size∧key.size≤32∧val.size≤200
instance (key val:ByteArray):Decidable (isPair key val):=by unfold isPair;infer_instance
noncomputable def putR (w:Wd) (key val:ByteArray):Int×Ed:=
 if w.root=0 then storeE ⟨w,0⟩ ⟨true,[key],[val],[]⟩ else
 let r:=putE key val 9 ⟨w,0⟩ w.root 1
 if r.1.two=true then storeE r.2 ⟨false,[r.1.key],[],[r.1.left,r.1.right]⟩ else (r.1.left,r.2)
noncomputable def putW (w:Wd) (key val:ByteArray):Wd×Int:=
 if ¬(WRight w∧isPair key val) then (wd0,1) else endE (setRoot (putR w key val))
def Fq (w x:Wd) (O N W:List Int):Prop:=Fr w { x with root:=w.root } O N W
theorem Fr.q {w x:Wd} {O N W:List Int} (h:Fr w x O N W) (r:Int):Fq w { x with root:=r } O N W:=by
 unfold Fq
 have e:({ { x with root:=r } with root:=w.root }:Wd)=x:=by
  obtain ⟨b,n,p,r0,g⟩:=x
  have:=h.root
  simp only at this
  simp[this]
 rw[e];exact h
theorem wright_root {w:Wd} {r:Int} (h:WRight w) (hr:r=0∨(10≤r∧r<w.now.length)):WRight { w with root:=r }:=by
 obtain ⟨a1,a2,a3,a4,a5,a6⟩:=h
 exact ⟨a1,a2,a3,a4,hr,a6⟩
theorem empS_within (key:ByteArray):within key empS empS=true:=within_iff.2 ⟨lt_nil key,.inl rfl⟩
def pw5:Nat→Nat
 | 0=>1
 | n+1=>5*pw5 n
theorem ktr_blocks {R:TR} {m:Nat} (h:∀c lo hi P B,R c lo hi P B→m≤B.length):∀ {ks:List ByteArray} {cs:List Int} {lo hi:ByteArray} {P:List Pr} {B:List Int},KTr R lo hi ks cs P B→m*cs.length≤B.length
 | [],[],_,_,_,_,hk=>hk.elim
 | [],[c],_,_,_,_,hk=>by have:=h _ _ _ _ _ hk;simpa using this
 | [],_ :: _ :: _,_,_,_,_,hk=>hk.elim
 | _ :: _,[],_,_,_,_,hk=>hk.elim
 | k :: ks,c :: cs,lo,hi,P,B,hk=>by
   obtain ⟨P1,B1,P2,B2,h1,h2,rfl,rfl⟩:=hk
   have g1:=h _ _ _ _ _ h1
   have g2:=ktr_blocks h h2
   rw[List.length_append,List.length_cons,Nat.mul_add]
   omega
theorem tr_blocks {H:Hd} (ho:HOK H):∀(h:Nat) (b:Int) (lo hi:ByteArray) (P:List Pr) (B:List Int),Tr H (h+1) b false lo hi P B→pw5 h≤B.length
 | 0,b,lo,hi,P,B,ht=>by
   have:=List.length_pos_of_mem ht.root_mem
   simp only[pw5];omega
 | h+1,b,lo,hi,P,B,ht=>by
   obtain ⟨n,B0,hn,⟨_,⟨_,hx,_⟩|⟨hl,hk⟩⟩,rfl⟩:=tr_get ht
   · omega
   · have:=ktr_blocks (m:=pw5 h) (fun c lo hi P B hc=>tr_blocks ho h c lo hi P B hc) hk
     have hlen:=ktr_len hk
     have h4:=(ho _ _ _ hn).2.2
     have h4:4≤n.keys.length:=h4.resolve_left (by simp)
     have:pw5 h*5≤pw5 h*n.kids.length:=Nat.mul_le_mul_left _ (by omega)
     simp only[pw5,List.length_cons]
     omega
theorem root_blocks {H:Hd} (ho:HOK H) {h:Nat} {b:Int} {lo hi:ByteArray} {P:List Pr} {B:List Int} (ht:Tr H (h+2) b true lo hi P B):2*pw5 h<B.length:=by
 obtain ⟨n,B0,hn,⟨_,⟨_,hx,_⟩|⟨hl,hk⟩⟩,rfl⟩:=tr_get ht
 · omega
 · have:=ktr_blocks (m:=pw5 h) (fun c lo hi P B hc=>tr_blocks ho h c lo hi P B hc) hk
   have hlen:=ktr_len hk
   have h1:1≤n.keys.length:=by
    rcases (ho _ _ _ hn).1.2.2 with ⟨h,_⟩|⟨_,_,h,_⟩
    · rw[hl]at h;cases h
    · exact h
   have:pw5 h*2≤pw5 h*n.kids.length:=Nat.mul_le_mul_left _ (by omega)
   rw[List.length_cons]
   omega
theorem pw5_up {i j:Nat} (h:i≤j):pw5 i≤pw5 j:=by
 induction h with
 | refl=>exact Nat.le_refl _
 | step _ ih=>simp only[pw5];omega
theorem nodup_len:∀ {n:Nat} {B:List Int},B.Nodup→(∀x∈B,0≤x∧x<n)→B.length≤n
 | 0,[],_,_=>Nat.le_refl _
 | 0,x :: B,_,h=>by have:=h x (by simp);omega
 | n+1,B,hu,h=>by
   have h1:=nodup_len (n:=n) (hu.erase (n:Int)) fun x hx=>by
    have hm:=h x (List.mem_of_mem_erase hx)
    have hne:x≠n:=fun e=>by
     subst e
     exact (List.Nodup.not_mem_erase hu) hx
    omega
   have h2:=List.length_erase (a:=(n:Int)) (l:=B)
   split at h2 <;> omega
theorem isTree_low {w:Wd} (hr:WRight w) {h:Nat} {P:List Pr} {B:List Int} (ht:IsTree w h P B):h≤6:=by
 rcases ht with ⟨_,rfl,_⟩|⟨_,_,_,ht,hu⟩
 · omega
 · refine Classical.byContradiction fun hc => ?_
   obtain ⟨j,rfl⟩:∃j,h=j+2:=⟨h - 2,by omega⟩
   have h1:=root_blocks (hold_hok w) ht
   have hn:=wr_now hr
   have h2:=nodup_len hu (n:=2048) fun x hx=>by
    obtain ⟨r,m,hm⟩:=ht.held x hx
    have:=hold_rg hn hm
    omega
   have h3:=pw5_up (show 5≤j by omega)
   have h4:pw5 5=3125:=by decide
   omega
theorem cnt_root (w:Wd) (r:Int):cnt { w with root:=r } = cnt w:=by
 have h:∀i,cntUp { w with root:=r } i=cntUp w i:=fun i=>by
  induction i with
  | zero=>rfl
  | succ i ih=>rw[cntUp,cntUp,ih];rfl
 exact h _
theorem endE_bad {r:Int×Ed} (h:r.2.bad≠0):endE (setRoot r)=(wd0,r.2.bad):=by
 unfold endE setRoot
 rw[if_pos (by exact h)]
theorem endE_ok {r:Int×Ed} (h:r.2.bad=0):endE (setRoot r)=({ r.2.w with root:=r.1 },0):=by
 unfold endE setRoot
 rw[if_neg (by simpa using h)]
theorem kok_one {k:ByteArray} (h:1≤k.size∧k.size≤32):KOK [k]:=kok_iff.2 ⟨List.pairwise_singleton _ _,fun x hx=>by
 obtain rfl:x=k:=by simpa using hx
 exact h⟩
theorem leaf_one {key val:ByteArray} (hp:isPair key val):NdOK ⟨true,[key],[val],[]⟩ true:=by
 refine ⟨⟨by simp,kok_one ⟨hp.1,hp.2.1⟩,.inl ⟨rfl,rfl,rfl,fun v hv => ?_⟩⟩,by simp,.inl rfl⟩
 obtain rfl:v=val:=by simpa using hv
 exact hp.2.2
theorem putR_tree {w:Wd} {key val:ByteArray} {h:Nat} {P:List Pr} {B:List Int} (hr:WRight w) (hp:isPair key val) (ht:IsTree w h P B):
   ((putR w key val).2.bad=60∧cnt w<2*h+1)∨((putR w key val).2.bad=0∧WRight (putR w key val).2.w∧cnt w≤cnt (putR w key val).2.w+(2*h+1) ∧
     ∃h' B' W,Fr w (putR w key val).2.w B B' W∧1≤h'∧h'≤h+1∧Tr (Hold (putR w key val).2.w) h' (putR w key val).1 true empS empS (withP key val P) B'∧B'.Nodup):=by
 unfold putR
 rcases id ht with ⟨h0,rfl,rfl,rfl⟩|⟨h0,h1,h8,hT,hu⟩
 · rw[if_pos h0]
   rcases store_ok (e:=⟨w,0⟩) rfl hr (leaf_one hp) with ⟨a1,a2,_⟩|⟨a1,a2,a3,a4,a5,a6⟩
   · exact .inl ⟨a1,by simp only at a2;omega⟩
   · refine .inr ⟨a1,a2,by simp only at a4;omega,1,_,_,a3,by omega,by omega,tr_of (a6 _ (leaf_one hp)) ⟨fun k _=>empS_within k,.inl ⟨rfl,rfl,by simp,rfl,rfl⟩⟩,by simp⟩
 · rw[if_neg h0]
   have hlow:=isTree_low hr ht
   dsimp only
   have hput:=put_ok ⟨hp.1,hp.2.1⟩ hp.2.2 9 h ⟨w,0⟩ w.root 1 empS empS P B rfl hr hT hu (empS_within key) (by omega) (by omega) (by omega)
   generalize putE key val 9 ⟨w,0⟩ w.root 1=r at hput ⊢
   rcases hput with ⟨a1,a2⟩|⟨a1,a2,a3,B',W,a4,a5,a6⟩
   · refine .inl ⟨?_,by simp only at a2;omega⟩
     by_cases ht2:r.1.two=true
     · rw[if_pos ht2,store_bad (by rw[a1];decide)];exact a1
     · rw[if_neg ht2];exact a1
   · simp only at a3 a4
     rcases a6 with ⟨b1,b2⟩|⟨b1,b2,b3,b4,b5,Pl,Bl,Pr,Br,b6,b7,b8,b9⟩
     · rw[if_neg (by rw[b1];simp)]
       exact .inr ⟨a1,a2,by dsimp only;omega,h,B',W,a4,h1,by omega,b2,a5⟩
     · rw[if_pos b1]
       have hnow:=wr_now a2
       have hok:NdOK ⟨false,[r.1.key],[],[r.1.left,r.1.right]⟩ true:=by
         refine ⟨⟨by simp,kok_one ⟨b4,b5⟩,.inr ⟨rfl,rfl,by simp,by simp,fun b hb => ?_⟩⟩,by simp,.inl rfl⟩
         rcases List.mem_cons.1 hb with rfl|hb
         · exact tr_rg hnow b6
         · obtain rfl:b=r.1.right:=by simpa using hb
           exact tr_rg hnow b7
       rcases store_ok a1 a2 hok with ⟨c1,c2,_⟩|⟨c1,c2,c3,c4,c5,c6⟩
       · exact .inl ⟨c1,by omega⟩
       · have hc:Cont (Hold r.2.w) h empS empS ⟨false,[r.1.key],[],[r.1.left,r.1.right]⟩ (withP key val P) B':=⟨fun k _=>empS_within k,.inr ⟨rfl,Pl,Bl,Pr,Br,b6,b7,b8,b9⟩⟩
         refine .inr ⟨c1,c2,by omega,h+1,_,_,(a4.trans c3 (by simp)).congr (O':=B) (N':=(storeE r.2 ⟨false,[r.1.key],[],[r.1.left,r.1.right]⟩).1 :: B') (fun x=>by simp) (fun x=>by simp[or_comm]),by omega,by omega,
           tr_of (c6 _ hok) (hc.frame fun x hx r m hm=>c3.hold (by simp) hm),List.nodup_cons.2 ⟨fun hx => ?_,a5⟩⟩
         obtain ⟨r0,m,hm⟩:=hc.held _ hx
         have:=hold_tr hm
         rw[c5]at this;cases this
theorem putW_tree {w:Wd} {key val:ByteArray} {h:Nat} {P:List Pr} {B:List Int} (hr:WRight w) (hp:isPair key val) (ht:IsTree w h P B):
   (putW w key val=(wd0,60)∧cnt w<2*h+1)∨∃x,putW w key val=(x,0)∧WRight x∧cnt w≤cnt x+(2*h+1)∧∃h' B' W,Fq w x B B' W∧h'≤h+1∧IsTree x h' (withP key val P) B':=by
 unfold putW
 rw[if_neg (by simp;exact ⟨hr,hp⟩)]
 have hx:=putR_tree hr hp ht
 generalize putR w key val=r at hx ⊢
 rcases hx with ⟨a1,a2⟩|⟨a1,a2,a3,h',B',W,a4,a5,a6,a7,a8⟩
 · exact .inl ⟨by rw[endE_bad (by rw[a1];decide),a1],a2⟩
 · have hlow:=isTree_low hr ht
   have hb:10≤r.1∧r.1<r.2.w.now.length:=by
     obtain ⟨r0,m,hm⟩:=a7.held _ a7.root_mem
     have:=hold_rg (wr_now a2) hm
     omega
   refine .inr ⟨_,endE_ok a1,wright_root a2 (.inr hb),(cnt_root r.2.w r.1)▸a3,h',B',W,a4.q _,a6,.inr ⟨by show r.1≠0;omega,a5,by omega,a7,a8⟩⟩
theorem putW_any {w:Wd} {key val:ByteArray} (hr:WRight w) (hp:isPair key val):
   (putW w key val=(wd0,60)∨putW w key val=(wd0,81))∨∃x,putW w key val=(x,0)∧WRight x∧x.base=w.base∧x.gen=w.gen∧x.now.length=w.now.length∧x.pages.length=w.pages.length∧∀b:Int,0≤b→tr w.base b.toNat=true→pgAt x b=pgAt w b:=by
 unfold putW
 rw[if_neg (by simp;exact ⟨hr,hp⟩)]
 have hx:Inv w (putR w key val).2∧((putR w key val).2.bad=0→Blk w (putR w key val).1):=by
   unfold putR
   by_cases h0:w.root=0
   · rw[if_pos h0]
     obtain ⟨a1,a2⟩:=store_inv (n:=⟨true,[key],[val],[]⟩) (Inv.start hr)
     exact ⟨a1,fun hb=>(a2 hb).2⟩
   · rw[if_neg h0]
     dsimp only
     obtain ⟨a1,a2⟩:=put_inv (key:=key) (val:=val) 9 ⟨w,0⟩ w.root 1 (Inv.start hr)
     by_cases ht:(putE key val 9 ⟨w,0⟩ w.root 1).1.two=true
     · rw[if_pos ht]
       obtain ⟨b1,b2⟩:=store_inv (n:=⟨false,[(putE key val 9 ⟨w,0⟩ w.root 1).1.key],[],[(putE key val 9 ⟨w,0⟩ w.root 1).1.left,(putE key val 9 ⟨w,0⟩ w.root 1).1.right]⟩) a1
       exact ⟨b1,fun hb=>(b2 hb).2⟩
     · rw[if_neg ht]
       exact ⟨a1,fun hb=>(a2 hb).1⟩
 generalize putR w key val=r at hx ⊢
 obtain ⟨hi,hb⟩:=hx
 rcases hi.bad with e|e|e
 · refine .inr ⟨_,endE_ok e,wright_root hi.right (.inr ?_),hi.base,hi.gen,hi.nlen,?_,hi.page⟩
   · have:=hb e
     rw[hi.nlen];exact this
   · have h1:=hi.right.2.1
     have h2:=hr.2.1
     have h3:=hi.nlen
     show r.2.w.pages.length=_
     omega
 · exact .inl (.inl (by rw[endE_bad (by rw[e];decide),e]))
 · exact .inl (.inr (by rw[endE_bad (by rw[e];decide),e]))
theorem ktr_app {R:TR} {k hi:ByteArray} {ks2:List ByteArray} {cs2:List Int} {P2:List Pr} {B2:List Int} (h2:KTr R k hi ks2 cs2 P2 B2):∀ {ks1:List ByteArray} {cs1:List Int} {lo:ByteArray} {P1:List Pr} {B1:List Int},KTr R lo k ks1 cs1 P1 B1→KTr R lo hi (ks1++k :: ks2) (cs1++cs2) (P1++P2) (B1++B2)
 | [],[],_,_,_,h=>h.elim
 | [],[c],lo,P1,B1,h=>⟨P1,B1,P2,B2,h,h2,rfl,rfl⟩
 | [],_ :: _ :: _,_,_,_,h=>h.elim
 | _ :: _,[],_,_,_,h=>h.elim
 | y :: ks1,c :: cs1,lo,P1,B1,h=>by
   obtain ⟨Q1,C1,Q2,C2,g1,g2,rfl,rfl⟩:=h
   exact ⟨Q1,C1,Q2++P2,C2++B2,g1,ktr_app h2 g2,by simp,by simp⟩
def Tail (R:TR) (hi' hi:ByteArray) (kr:List ByteArray) (cr:List Int) (P:List Pr) (B:List Int):Prop:=
 (kr=[]∧cr=[]∧hi'=hi∧P=[]∧B=[])∨∃kr',kr=hi' :: kr'∧KTr R hi' hi kr' cr P B
theorem Tail.mono {R S:TR} {hi' hi:ByteArray} {kr:List ByteArray} {cr:List Int} {P:List Pr} {B:List Int} (m:∀c lo hi P B',(∀x∈B',x∈B)→R c lo hi P B'→S c lo hi P B') (h:Tail R hi' hi kr cr P B):Tail S hi' hi kr cr P B:=by
 rcases h with h|⟨kr',h1,h2⟩
 · exact .inl h
 · exact .inr ⟨kr',h1,KTr.mono m h2⟩
theorem ktr_two {R:TR} {ks:List ByteArray} {cs:List Int} {lo hi:ByteArray} {P:List Pr} {B:List Int} {l:Nat} (h:KTr R lo hi ks cs P B) (hl:l<ks.length):
   ∃mid hi' c1 c2 P1 Pa Pb P3 B1 Ba Bb B3,cs[l]?=some c1∧cs[l+1]?=some c2∧R c1 mid ks[l] Pa Ba∧R c2 ks[l] hi' Pb Bb∧P=P1++((Pa++Pb)++P3)∧B=B1++((Ba++Bb)++B3) ∧
    KSeg R lo mid (ks.take l) (cs.take l) P1 B1∧Tail R hi' hi (ks.drop (l+1)) (cs.drop (l+2)) P3 B3:=by
 have hlen:=ktr_len h
 obtain ⟨mid,P1,B1,PP,BB,s1,s2,rfl,rfl⟩:=ktr_split h (Nat.le_of_lt hl)
 have h1:l<cs.length:=by omega
 have h2:l+1<cs.length:=by omega
 rw[List.drop_eq_getElem_cons hl,List.drop_eq_getElem_cons h1]at s2
 obtain ⟨Pa,Ba,PQ,BQ,t1,t2,rfl,rfl⟩:=s2
 rw[List.drop_eq_getElem_cons h2]at t2
 cases hk:ks.drop (l+1) with
 | nil=>
   rw[hk]at t2
   have hc:cs.drop (l+1+1)=[]:=by
    have:(ks.drop (l+1)).length=0:=by rw[hk];rfl
    rw[List.length_drop]at this
    exact List.drop_of_length_le (by omega)
   rw[hc]at t2
   exact ⟨mid,hi,_,_,P1,Pa,PQ,[],B1,Ba,BQ,[],List.getElem?_eq_getElem h1,List.getElem?_eq_getElem h2,t1,t2,by simp,by simp,s1,.inl ⟨rfl,hc,rfl,rfl,rfl⟩⟩
 | cons k kr=>
   rw[hk]at t2
   obtain ⟨Pb,Bb,P3,B3,u1,u2,rfl,rfl⟩:=t2
   exact ⟨mid,k,_,_,P1,Pa,Pb,P3,B1,Ba,Bb,B3,List.getElem?_eq_getElem h1,List.getElem?_eq_getElem h2,t1,u1,by simp,by simp,s1,.inr ⟨kr,rfl,u2⟩⟩
theorem ktr_re {S:TR} {lo mid hi' hi:ByteArray} {k1 m kr:List ByteArray} {c1 cm cr:List Int} {P1 Pm P3:List Pr} {B1 Bm B3:List Int} (h1:KSeg S lo mid k1 c1 P1 B1) (h2:KTr S mid hi' m cm Pm Bm) (h3:Tail S hi' hi kr cr P3 B3):
   KTr S lo hi (k1++(m++kr)) (c1++(cm++cr)) (P1++(Pm++P3)) (B1++(Bm++B3)):=by
 refine ktr_join h1 ?_
 rcases h3 with ⟨rfl,rfl,rfl,rfl,rfl⟩|⟨kr',rfl,h4⟩
 · simpa using h2
 · exact ktr_app h4 h2
def CR (H:Hd) (h:Nat) (lo hi:ByteArray) (n:Nd) (P:List Pr) (B:List Int):Prop:=
 (∀k∈n.keys,within k lo hi=true)∧KOK n.keys ∧
 ((n.leaf=true∧h=0∧n.kids=[]∧n.vals.length=n.keys.length∧(∀v∈n.vals,v.size≤200)∧P=n.keys.zip n.vals∧B=[]) ∨
  (n.leaf=false∧n.vals=[]∧KTr (fun c lo hi P B=>Tr H h c false lo hi P B) lo hi n.keys n.kids P B))
theorem Cont.cr {H:Hd} {h:Nat} {lo hi:ByteArray} {n:Nd} {P:List Pr} {B:List Int} (hs:Stands n) (hc:Cont H h lo hi n P B):CR H h lo hi n P B:=by
 obtain ⟨s1,s2,s3⟩:=hs
 obtain ⟨c1,⟨c2,c3,c4,c5,c6⟩|⟨c2,c3⟩⟩:=hc
 · rcases s3 with ⟨_,v1,v2,v3⟩|⟨hx,_⟩
   · exact ⟨c1,s2,.inl ⟨c2,c3,v1,v2,v3,c5,c6⟩⟩
   · rw[c2]at hx;cases hx
 · rcases s3 with ⟨hx,_⟩|⟨_,v1,_⟩
   · rw[c2]at hx;cases hx
   · exact ⟨c1,s2,.inr ⟨c2,v1,c3⟩⟩
theorem CR.cont {H:Hd} {h:Nat} {lo hi:ByteArray} {n:Nd} {P:List Pr} {B:List Int} (hc:CR H h lo hi n P B) (hk:n.keys≠[]):Cont H h lo hi n P B:=by
 obtain ⟨c1,c2,⟨a1,a2,a3,a4,a5,a6,a7⟩|⟨a1,a2,a3⟩⟩:=hc
 · exact ⟨c1,.inl ⟨a1,a2,hk,a6,a7⟩⟩
 · exact ⟨c1,.inr ⟨a1,a3⟩⟩
theorem ktr_mem {R:TR} {Q:Int→Prop} (h:∀c lo hi P B,R c lo hi P B→Q c):∀ {ks:List ByteArray} {cs:List Int} {lo hi:ByteArray} {P:List Pr} {B:List Int},KTr R lo hi ks cs P B→∀c∈cs,Q c
 | [],[],_,_,_,_,hk=>hk.elim
 | [],[c],_,_,_,_,hk=>fun x hx=>by
   obtain rfl:x=c:=by simpa using hx
   exact h _ _ _ _ _ hk
 | [],_ :: _ :: _,_,_,_,_,hk=>hk.elim
 | _ :: _,[],_,_,_,_,hk=>hk.elim
 | k :: ks,c :: cs,lo,hi,P,B,hk=>fun x hx=>by
   obtain ⟨P1,B1,P2,B2,h1,h2,rfl,rfl⟩:=hk
   rcases List.mem_cons.1 hx with rfl|hx
   · exact h _ _ _ _ _ h1
   · exact ktr_mem h h2 x hx
theorem CR.stands {w:Wd} (hr:WRight w) {h:Nat} {lo hi:ByteArray} {n:Nd} {P:List Pr} {B:List Int} (hc:CR (Hold w) h lo hi n P B) (h9:n.keys.length≤9) (h1:n.leaf=true∨1≤n.keys.length):Stands n:=by
 obtain ⟨c1,c2,⟨a1,a2,a3,a4,a5,a6,a7⟩|⟨a1,a2,a3⟩⟩:=hc
 · exact ⟨h9,c2,.inl ⟨a1,a3,a4,a5⟩⟩
 · refine ⟨h9,c2,.inr ⟨a1,a2,?_,ktr_len a3,ktr_mem (fun c lo hi P B ht=>tr_rg (wr_now hr) ht) a3⟩⟩
   rcases h1 with h1|h1
   · rw[a1]at h1;cases h1
   · exact h1
theorem CR.frame {H G:Hd} {h:Nat} {lo hi:ByteArray} {n:Nd} {P:List Pr} {B:List Int} (hc:CR H h lo hi n P B) (f:∀x∈B,∀r n,H x r=some n→G x r=some n):CR G h lo hi n P B:=by
 obtain ⟨c1,c2,a|⟨a1,a2,a3⟩⟩:=hc
 · exact ⟨c1,c2,.inl a⟩
 · exact ⟨c1,c2,.inr ⟨a1,a2,KTr.mono (fun c lo hi P B' hB hx=>Tr.frame (fun x hx'=>f x (hB x hx')) hx) a3⟩⟩
theorem CR.held {H:Hd} {h:Nat} {lo hi:ByteArray} {n:Nd} {P:List Pr} {B:List Int} (hc:CR H h lo hi n P B):∀x∈B,∃r n,H x r=some n:=by
 obtain ⟨c1,c2,⟨_,_,_,_,_,_,rfl⟩|⟨a1,a2,a3⟩⟩:=hc
 · intro x hx;cases hx
 · exact KTr.mem (Q:=fun x=>∃r n,H x r=some n) (fun c lo hi P B hc=>Tr.held hc) a3
def joinN (a:Nd) (k:ByteArray) (b:Nd):Nd:=
 if a.leaf then ⟨true,a.keys++b.keys,a.vals++b.vals,[]⟩ else ⟨false,a.keys++k :: b.keys,[],a.kids++b.kids⟩
def splL (n:Nd) (c:Nat):Nd:=if n.leaf then ⟨true,n.keys.take c,n.vals.take c,[]⟩ else ⟨false,n.keys.take c,[],n.kids.take (c+1)⟩
def splR (n:Nd) (c:Nat):Nd:=if n.leaf then ⟨true,n.keys.drop c,n.vals.drop c,[]⟩ else ⟨false,n.keys.drop (c+1),[],n.kids.drop (c+1)⟩
def splK (n:Nd) (c:Nat):ByteArray:=(n.keys[c]?).getD empS
theorem rise_app {l1 l2:List ByteArray} (h1:Rise l1) (h2:Rise l2) (h:∀x∈l1,∀y∈l2,lt x y=true):Rise (l1++l2):=List.pairwise_append.2 ⟨h1,h2,h⟩
theorem ktr_ne {R:TR} (m:∀c lo hi P B,R c lo hi P B→P≠[]):∀ {ks:List ByteArray} {cs:List Int} {lo hi:ByteArray} {P:List Pr} {B:List Int},KTr R lo hi ks cs P B→P≠[]
 | [],[],_,_,_,_,hk=>hk.elim
 | [],[c],_,_,_,_,hk=>m _ _ _ _ _ hk
 | [],_ :: _ :: _,_,_,_,_,hk=>hk.elim
 | _ :: _,[],_,_,_,_,hk=>hk.elim
 | k :: ks,c :: cs,lo,hi,P,B,hk=>by
   obtain ⟨P1,B1,P2,B2,h1,h2,rfl,rfl⟩:=hk
   have:=m _ _ _ _ _ h1
   simp[this]
theorem tr_ne {H:Hd} (ho:HOK H):∀(h:Nat) (b:Int) (lo hi:ByteArray) (P:List Pr) (B:List Int),Tr H h b false lo hi P B→P≠[]
 | 0,_,_,_,_,_,ht=>ht.elim
 | h+1,b,lo,hi,P,B,ht=>by
   obtain ⟨n,B0,hn,⟨_,⟨hl,_,hk,hP,_⟩|⟨hl,hk⟩⟩,rfl⟩:=tr_get ht
   · rcases (ho _ _ _ hn).1.2.2 with ⟨_,_,hv,_⟩|⟨hx,_⟩
     · rw[hP]
       intro e
       have:=congrArg List.length e
       rw[List.length_zip,hv,Nat.min_self,List.length_nil]at this
       have h0:=List.length_pos_iff.2 hk
       omega
     · rw[hl]at hx;cases hx
   · exact ktr_ne (fun c lo hi P B hc=>tr_ne ho h c lo hi P B hc) hk
theorem ktr_lt {R:TR} (mw:∀c lo hi P B,R c lo hi P B→∀p∈P,within p.1 lo hi=true) (m:∀c lo hi P B,R c lo hi P B→P≠[]) {ks:List ByteArray} {cs:List Int} {lo hi:ByteArray} {P:List Pr} {B:List Int} (hr:Rise ks) (he:∀k∈ks,k≠empS) (h:KTr R lo hi ks cs P B):∀k∈ks,lt lo k=true:=by
 cases ks with
 | nil=>intro k hk;cases hk
 | cons k ks=>
   cases cs with
   | nil=>exact h.elim
   | cons c cs=>
     obtain ⟨P1,B1,P2,B2,h1,h2,rfl,rfl⟩:=h
     obtain ⟨p,hp⟩:=List.exists_mem_of_ne_nil _ (m _ _ _ _ _ h1)
     obtain ⟨g1,g2⟩:=within_iff.1 (mw _ _ _ _ _ h1 p hp)
     have g2:=g2.resolve_left (he k (by simp))
     have hk:lt lo k=true:=by
       rcases nlt_iff.1 g1 with e|e
       · first | exact e▸g2|exact e.symm▸g2
       · exact lt_trans e g2
     intro x hx
     rcases List.mem_cons.1 hx with rfl|hx
     · exact hk
     · exact lt_trans hk ((List.pairwise_cons.1 hr).1 x hx)
theorem join_ok {H:Hd} (ho:HOK H) {h:Nat} {lo k hi:ByteArray} {a b:Nd} {Pa Pb:List Pr} {Ba Bb:List Int} (hk:1≤k.size∧k.size≤32) (hw:within k lo hi=true) (ha:CR H h lo k a Pa Ba) (hb:CR H h k hi b Pb Bb) (hl:a.leaf=b.leaf):
   CR H h lo hi (joinN a k b) (Pa++Pb) (Ba++Bb)∧(joinN a k b).leaf=a.leaf:=by
 have hke:k≠empS:=fun e=>by have:=hk.1;rw[e]at this;exact absurd this (by decide)
 obtain ⟨a1,a2,a3⟩:=ha
 obtain ⟨b1,b2,b3⟩:=hb
 obtain ⟨ar,az⟩:=kok_iff.1 a2
 obtain ⟨br,bz⟩:=kok_iff.1 b2
 obtain ⟨w1,w2⟩:=within_iff.1 hw
 have ak:∀x∈a.keys,lt x k=true:=fun x hx=>by
   rcases (within_iff.1 (a1 x hx)).2 with e|e
   · exact absurd e hke
   · exact e
 have bk:∀x∈b.keys,lt x k=false:=fun x hx=>(within_iff.1 (b1 x hx)).1
 have aw:∀x∈a.keys,within x lo hi=true:=fun x hx=>within_high (a1 x hx) hke hw
 have bw:∀x∈b.keys,within x lo hi=true:=fun x hx=>within_low (b1 x hx) w1
 unfold joinN
 rcases a3 with ⟨x1,x2,x3,x4,x5,x6,x7⟩|⟨x1,x2,x3⟩
 · rw[x1]at hl ⊢
   rw[if_pos rfl]
   rcases b3 with ⟨y1,y2,y3,y4,y5,y6,y7⟩|⟨y1,_⟩
   · refine ⟨⟨fun x hx => ?_,kok_iff.2 ⟨rise_app ar br fun x hx y hy=>lt_nlt (ak x hx) (bk y hy),fun x hx => ?_⟩,.inl ⟨rfl,x2,rfl,by simp;omega,fun v hv => ?_,?_,by rw[x7,y7];rfl⟩⟩,rfl⟩
     · rcases List.mem_append.1 hx with h|h
       · exact aw x h
       · exact bw x h
     · rcases List.mem_append.1 hx with h|h
       · exact az x h
       · exact bz x h
     · rcases List.mem_append.1 hv with h|h
       · exact x5 v h
       · exact y5 v h
     · rw[x6,y6];exact (List.zip_append (by omega)).symm
   · rw[y1]at hl;cases hl
 · rw[x1]at hl ⊢
   rw[if_neg (by simp)]
   rcases b3 with ⟨y1,_⟩|⟨y1,y2,y3⟩
   · rw[y1]at hl;cases hl
   · have hbr:∀x∈b.keys,lt k x=true:=ktr_lt (fun c lo hi P B hc=>hc.within ho) (fun c lo hi P B hc=>tr_ne ho h c lo hi P B hc) br (fun x hx e=>by have:=(bz x hx).1;rw[e]at this;exact absurd this (by decide)) y3
     refine ⟨⟨fun x hx => ?_,kok_iff.2 ⟨rise_app ar (List.pairwise_cons.2 ⟨hbr,br⟩) fun x hx y hy => ?_,fun x hx => ?_⟩,.inr ⟨rfl,rfl,ktr_app y3 x3⟩⟩,rfl⟩
     · rcases List.mem_append.1 hx with h|h
       · exact aw x h
       · rcases List.mem_cons.1 h with rfl|h
         · exact hw
         · exact bw x h
     · rcases List.mem_cons.1 hy with rfl|hy
       · exact ak x hx
       · exact lt_trans (ak x hx) (hbr y hy)
     · rcases List.mem_append.1 hx with h|h
       · exact az x h
       · rcases List.mem_cons.1 h with rfl|h
         · exact hk
         · exact bz x h
theorem spl_ok {H:Hd} {h c:Nat} {lo hi:ByteArray} {n:Nd} {P:List Pr} {B:List Int} (hc:CR H h lo hi n P B) (i4:c<n.keys.length) (h1:1≤c):
   within (splK n c) lo hi=true∧lt lo (splK n c)=true∧1≤(splK n c).size∧(splK n c).size≤32∧(∀k∈n.keys.take c,lt k (splK n c)=true)∧splK n c∈n.keys∧(splL n c).leaf=n.leaf∧(splR n c).leaf=n.leaf∧(splL n c).keys=n.keys.take c∧(splR n c).keys=n.keys.drop (if n.leaf then c else c+1) ∧
     ∃Pl Bl Pr Br,CR H h lo (splK n c) (splL n c) Pl Bl∧CR H h (splK n c) hi (splR n c) Pr Br∧P=Pl++Pr∧B=Bl++Br:=by
 obtain ⟨hw,hkk,hc⟩:=hc
 obtain ⟨hr,hsz⟩:=kok_iff.1 hkk
 have i3:c - 1<n.keys.length:=by omega
 have ek:splK n c=n.keys[c]:=by rw[splK,List.getElem?_eq_getElem i4];rfl
 have hk4:=hsz _ (List.getElem_mem i4)
 have hlt:lt lo n.keys[c]=true:=by
   have h3:=(within_iff.1 (hw _ (List.getElem_mem i3))).1
   exact nlt_lt h3 (List.pairwise_iff_getElem.1 hr (c - 1) c i3 i4 (by omega))
 have hlow:∀k∈n.keys.take c,lt k n.keys[c]=true:=fun k hk=>by
   obtain ⟨j,hj,hjs,rfl⟩:=take_mem hk
   exact List.pairwise_iff_getElem.1 hr j c hj i4 hjs
 have htake:∀k∈n.keys.take c,within k lo n.keys[c]=true:=fun k hk=>by
   obtain ⟨j,hj,hjs,rfl⟩:=take_mem hk
   exact within_iff.2 ⟨(within_iff.1 (hw _ (List.getElem_mem hj))).1,.inr (List.pairwise_iff_getElem.1 hr j c hj i4 hjs)⟩
 have hdrop:∀i,c≤i→∀k∈n.keys.drop i,within k n.keys[c] hi=true:=fun i hi4 k hk=>by
   obtain ⟨j,hj,hjs,rfl⟩:=drop_mem hk
   refine within_iff.2 ⟨?_,(within_iff.1 (hw _ (List.getElem_mem hj))).2⟩
   by_cases e:j=c
   · subst e;exact lt_irr _
   · exact lt_asym (List.pairwise_iff_getElem.1 hr c j i4 hj (by omega))
 have kokT:∀i,KOK (n.keys.take i):=fun i=>kok_iff.2 ⟨rise_take i hr,fun k hk=>hsz k (List.mem_of_mem_take hk)⟩
 have kokD:∀i,KOK (n.keys.drop i):=fun i=>kok_iff.2 ⟨rise_drop i hr,fun k hk=>hsz k (List.mem_of_mem_drop hk)⟩
 rw[ek]
 refine ⟨hw _ (List.getElem_mem i4),hlt,hk4.1,hk4.2,hlow,List.getElem_mem i4,?_⟩
 rcases hc with ⟨x1,x2,x3,x4,x5,x6,x7⟩|⟨x1,x2,x3⟩
 · have eL:splL n c=⟨true,n.keys.take c,n.vals.take c,[]⟩:=by rw[splL,if_pos x1]
   have eR:splR n c=⟨true,n.keys.drop c,n.vals.drop c,[]⟩:=by rw[splR,if_pos x1]
   rw[eL,eR,x1,if_pos rfl]
   exact ⟨rfl,rfl,rfl,rfl,_,[],_,[],⟨htake,kokT c,.inl ⟨rfl,x2,rfl,by simp;omega,fun v hv=>x5 v (List.mem_of_mem_take hv),rfl,rfl⟩⟩,⟨hdrop c (Nat.le_refl _),kokD c,.inl ⟨rfl,x2,rfl,by simp;omega,fun v hv=>x5 v (List.mem_of_mem_drop hv),rfl,rfl⟩⟩,by rw[x6];exact zip_split c x4,by simpa using x7⟩
 · have eL:splL n c=⟨false,n.keys.take c,[],n.kids.take (c+1)⟩:=by rw[splL,if_neg (by rw[x1];simp)]
   have eR:splR n c=⟨false,n.keys.drop (c+1),[],n.kids.drop (c+1)⟩:=by rw[splR,if_neg (by rw[x1];simp)]
   rw[eL,eR,x1,if_neg (by simp)]
   obtain ⟨mid,P1,B1,P2,B2,s1,s2,rfl,rfl⟩:=ktr_split (i:=c+1) x3 (by omega)
   have e5:n.keys.take (c+1)=n.keys.take c++[n.keys[c]]:=take_snoc i4
   rw[e5]at s1
   obtain ⟨rfl,s3⟩:=kseg_ktr s1
   exact ⟨rfl,rfl,rfl,rfl,P1,B1,P2,B2,⟨htake,kokT c,.inr ⟨rfl,rfl,s3⟩⟩,⟨hdrop (c+1) (by omega),kokD (c+1),.inr ⟨rfl,rfl,s2⟩⟩,rfl,rfl⟩
def oneN (n:Nd) (l:Nat) (c:Int):Nd:=⟨n.leaf,n.keys.take l++n.keys.drop (l+1),n.vals,n.kids.take l++c :: n.kids.drop (l+2)⟩
def twoN (n:Nd) (l:Nat) (x:Int) (k:ByteArray) (y:Int):Nd:=⟨n.leaf,n.keys.take l++k :: n.keys.drop (l+1),n.vals,n.kids.take l++x :: y :: n.kids.drop (l+2)⟩
def cutAt (a b:Nd):Nat:=if a.keys.length > b.keys.length then a.keys.length - 1 else a.keys.length+1
noncomputable def joinE (e:Ed) (n:Nd) (l:Nat) (a b:Nd):Nd×Ed:=
 let j:=joinN a ((n.keys[l]?).getD empS) b
 if Stands a∧Stands b∧Stands j∧j.keys.length≤8 then (oneN n l (storeE e j).1,(storeE e j).2)
 else (twoN n l (storeE e (splL j (cutAt a b))).1 (splK j (cutAt a b)) (storeE (storeE e (splL j (cutAt a b))).2 (splR j (cutAt a b))).1,(storeE (storeE e (splL j (cutAt a b))).2 (splR j (cutAt a b))).2)
theorem seg_end {R:TR} {ks:List ByteArray} {cs:List Int} {lo mid:ByteArray} {P:List Pr} {B:List Int} (h:KSeg R lo mid ks cs P B) (hr:Rise ks) (hw:∀k∈ks,lt k lo=false):(∀k∈ks,lt mid k=false)∧lt mid lo=false:=by
 have hend:=kseg_end h
 cases hx:ks.getLast? with
 | none=>
   rw[hx]at hend
   have hend:mid=lo:=hend
   rw[List.getLast?_eq_none_iff.1 hx,hend]
   exact ⟨fun k hk=>(by cases hk),lt_irr lo⟩
 | some z=>
   rw[hx]at hend
   have hend:mid=z:=hend
   obtain ⟨l',rfl⟩:=List.getLast?_eq_some_iff.1 hx
   refine ⟨fun k hk => ?_,by rw[hend];exact hw z (by simp)⟩
   rw[hend]
   rcases List.mem_append.1 hk with h2|h2
   · exact lt_asym ((List.pairwise_append.1 hr).2.2 k h2 z (by simp))
   · obtain rfl:k=z:=by simpa using h2
     exact lt_irr _
theorem tail_end {R:TR} {lo:ByteArray} {kr:List ByteArray} {cr:List Int} {hi' hi:ByteArray} {P:List Pr} {B:List Int} (h:Tail R hi' hi kr cr P B) (hr:Rise kr) (he:∀k∈kr,k≠empS) (hw:∀k∈kr,within k lo hi=true) {s mid:ByteArray} (hs:within s mid hi'=true) (hm:lt mid lo=false):(∀k∈kr,lt s k=true)∧within s lo hi=true:=by
 rcases h with ⟨rfl,_,rfl,_⟩|⟨kr',rfl,_⟩
 · exact ⟨fun k hk=>(by cases hk),within_low hs hm⟩
 · have h1:=(within_iff.1 hs).2.resolve_left (he hi' (by simp))
   refine ⟨fun k hk => ?_,within_high (within_low hs hm) (he hi' (by simp)) (hw hi' (by simp))⟩
   rcases List.mem_cons.1 hk with rfl|hk
   · exact h1
   · exact lt_trans h1 ((List.pairwise_cons.1 hr).1 k hk)
theorem rise_mid {ks:List ByteArray} {l:Nat} {s:ByteArray} (hr:Rise ks) (h1:∀k∈ks.take l,lt k s=true) (h2:∀k∈ks.drop (l+1),lt s k=true):Rise (ks.take l++s :: ks.drop (l+1)):=by
 refine rise_app (rise_take l hr) (List.pairwise_cons.2 ⟨h2,rise_drop (l+1) hr⟩) fun x hx y hy => ?_
 rcases List.mem_cons.1 hy with rfl|hy
 · exact h1 x hx
 · exact lt_trans (h1 x hx) (h2 y hy)
theorem rise_cut {ks:List ByteArray} {l:Nat} (hr:Rise ks):Rise (ks.take l++ks.drop (l+1)):=by
 refine rise_app (rise_take l hr) (rise_drop (l+1) hr) fun x hx y hy => ?_
 obtain ⟨i,hi,hil,rfl⟩:=take_mem hx
 obtain ⟨j,hj,hjl,rfl⟩:=drop_mem hy
 exact List.pairwise_iff_getElem.1 hr i j hi hj (by omega)
theorem cr_leaf {H:Hd} {h:Nat} {lo hi:ByteArray} {n:Nd} {P:List Pr} {B:List Int} (hc:CR H h lo hi n P B) (hk:n.keys≠[]) {b:Int} {r:Bool} (hh:H b r=some n):Tr H (h+1) b r lo hi P (b :: B):=tr_of hh (hc.cont hk)
theorem kseg_mem {R:TR} {Q:Int→Prop} (h:∀c lo hi P B,R c lo hi P B→∀x∈B,Q x):∀ {ks:List ByteArray} {cs:List Int} {lo hi:ByteArray} {P:List Pr} {B:List Int},KSeg R lo hi ks cs P B→∀x∈B,Q x
 | [],[],_,_,_,_,hk=>fun x hx=>by obtain ⟨_,_,rfl⟩:=hk;cases hx
 | [],_ :: _,_,_,_,_,hk=>hk.elim
 | _ :: _,[],_,_,_,_,hk=>hk.elim
 | k :: ks,c :: cs,lo,hi,P,B,hk=>fun x hx=>by
   obtain ⟨P1,B1,P2,B2,h1,h2,rfl,rfl⟩:=hk
   rcases List.mem_append.1 hx with hx|hx
   · exact h _ _ _ _ _ h1 x hx
   · exact kseg_mem h h2 x hx
theorem tail_mem {R:TR} {Q:Int→Prop} (h:∀c lo hi P B,R c lo hi P B→∀x∈B,Q x) {kr:List ByteArray} {cr:List Int} {hi' hi:ByteArray} {P:List Pr} {B:List Int} (ht:Tail R hi' hi kr cr P B):∀x∈B,Q x:=by
 rcases ht with ⟨_,_,_,_,rfl⟩|⟨kr',_,hk⟩
 · intro x hx;cases hx
 · exact KTr.mem h hk
set_option maxHeartbeats 1000000 in
theorem core_ok {e:Ed} {n a b:Nd} {l j:Nat} {lo mid hi' hi:ByteArray} {P1 Pa Pb P3:List Pr} {B1 Ba Bb B3:List Int} (he:e.bad=0) (hr:WRight e.w)
   (hl:l<n.keys.length) (nv:n.vals=[]) (nl:n.leaf=false) (nk:KOK n.keys) (nw:∀k∈n.keys,within k lo hi=true)
   (hseg:KSeg (fun c lo hi P B=>Tr (Hold e.w) (j+1) c false lo hi P B) lo mid (n.keys.take l) (n.kids.take l) P1 B1)
   (htl:Tail (fun c lo hi P B=>Tr (Hold e.w) (j+1) c false lo hi P B) hi' hi (n.keys.drop (l+1)) (n.kids.drop (l+2)) P3 B3)
   (hkw:within n.keys[l] mid hi'=true) (ha:CR (Hold e.w) j mid n.keys[l] a Pa Ba) (hb:CR (Hold e.w) j n.keys[l] hi' b Pb Bb) (hab:a.leaf=b.leaf)
   (hsz:(a.keys.length=3∧4≤b.keys.length∧b.keys.length≤8)∨(b.keys.length=3∧4≤a.keys.length∧a.keys.length≤8))
   (hu:(B1++((Ba++Bb)++B3)).Nodup):
   ((joinE e n l a b).2.bad=60∧cnt e.w<2)∨((joinE e n l a b).2.bad=0∧WRight (joinE e n l a b).2.w∧cnt e.w≤cnt (joinE e n l a b).2.w+2∧(joinE e n l a b).1.leaf=false∧n.keys.length≤(joinE e n l a b).1.keys.length+1∧(joinE e n l a b).1.keys.length≤n.keys.length ∧
     ∃X B',Fr e.w (joinE e n l a b).2.w [] X X∧B'.Nodup∧(∀x,x∈B' ↔ x∈X∨x∈B1++((Ba++Bb)++B3))∧CR (Hold (joinE e n l a b).2.w) (j+1) lo hi (joinE e n l a b).1 (P1++((Pa++Pb)++P3)) B'):=by
 obtain ⟨kr,kz⟩:=kok_iff.1 nk
 have hke:∀k∈n.keys,k≠empS:=fun k hk e=>by have:=(kz k hk).1;rw[e]at this;exact absurd this (by decide)
 obtain ⟨hm1,hm2⟩:=seg_end hseg (rise_take l kr) (fun k hk=>(within_iff.1 (nw k (List.mem_of_mem_take hk))).1)
 have htail:∀s,within s mid hi'=true→(∀k∈n.keys.drop (l+1),lt s k=true)∧within s lo hi=true:=fun s hs=>
   tail_end htl (rise_drop _ kr) (fun k hk=>hke k (List.mem_of_mem_drop hk)) (fun k hk=>nw k (List.mem_of_mem_drop hk)) hs hm2
 obtain ⟨hj,hjl⟩:=join_ok (hold_hok e.w) (kz _ (List.getElem_mem hl)) hkw ha hb hab
 have hheld:∀x∈B1++((Ba++Bb)++B3),tr e.w.now x.toNat=true:=fun x hx=>by
   have:∃r m,Hold e.w x r=some m:=by
     rcases List.mem_append.1 hx with hx|hx
     · exact kseg_mem (fun c lo hi P B hc=>Tr.held hc) hseg x hx
     · rcases List.mem_append.1 hx with hx|hx
       · exact hj.held x hx
       · exact tail_mem (fun c lo hi P B hc=>Tr.held hc) htl x hx
   obtain ⟨r,m,hm⟩:=this
   exact hold_tr hm
 have hlenj:(joinN a n.keys[l] b).keys.length=a.keys.length+b.keys.length+(if a.leaf then 0 else 1):=by
   unfold joinN
   cases a.leaf <;> simp <;> omega
 have ek:(n.keys[l]?).getD empS=n.keys[l]:=by rw[List.getElem?_eq_getElem hl];rfl
 unfold joinE
 rw[ek]
 dsimp only
 by_cases hone:Stands a∧Stands b∧Stands (joinN a n.keys[l] b)∧(joinN a n.keys[l] b).keys.length≤8
 · rw[if_pos hone]
   have hok:NdOK (joinN a n.keys[l] b) false:=⟨hone.2.2.1,hone.2.2.2,.inr (by omega)⟩
   rcases store_ok he hr (ndok_up hok) with ⟨a1,a2,_⟩|⟨a1,a2,a3,a4,a5,a6⟩
   · exact .inl ⟨a1,by omega⟩
   · have fr:∀(x:Int) (r:Bool) (m:Nd),Hold e.w x r=some m→Hold (storeE e (joinN a n.keys[l] b)).2.w x r=some m:=fun x r m hm=>a3.hold (by simp) hm
     generalize (storeE e (joinN a n.keys[l] b)).1=s at a3 a5 a6 ⊢
     generalize (storeE e (joinN a n.keys[l] b)).2=e' at a1 a2 a3 a4 a6 fr ⊢
     have hs:s∉B1++((Ba++Bb)++B3):=fun hx=>by rw[hheld _ hx]at a5;cases a5
     have hT:=cr_leaf (hj.frame fun x _ r m hm=>fr x r m hm) (List.ne_nil_of_length_pos (by omega)) (a6 false hok)
     have hk:=ktr_re (S:=fun c lo hi P B=>Tr (Hold e'.w) (j+1) c false lo hi P B) (m:=[]) (cm:=[s]) (kseg_mono (fun c lo hi P B' _ hx=>Tr.frame (fun x _=>fr x) hx) hseg) hT (htl.mono (fun c lo hi P B' _ hx=>Tr.frame (fun x _=>fr x) hx))
     refine .inr ⟨a1,a2,by omega,nl,?_,?_,_,_,a3,?_,fun x => ?_,fun k hk => ?_,kok_iff.2 ⟨rise_cut kr,fun k hk => ?_⟩,.inr ⟨nl,nv,hk⟩⟩
     · simp[oneN];omega
     · simp[oneN];omega
     · exact (List.perm_middle.nodup_iff).2 (List.nodup_cons.2 ⟨hs,hu⟩)
     · simp only[List.mem_append,List.mem_cons,List.not_mem_nil,or_false]
       constructor
       · rintro (h|(h|h|h)|h) <;> simp[h]
       · rintro (h|h|(h|h)|h) <;> simp[h]
     · rcases List.mem_append.1 hk with h|h
       · exact nw k (List.mem_of_mem_take h)
       · exact nw k (List.mem_of_mem_drop h)
     · rcases List.mem_append.1 hk with h|h
       · exact kz k (List.mem_of_mem_take h)
       · exact kz k (List.mem_of_mem_drop h)
 · rw[if_neg hone]
   have sa:Stands a:=ha.stands hr (by omega) (.inr (by omega))
   have sb:Stands b:=hb.stands hr (by omega) (.inr (by omega))
   have h9:9≤(joinN a n.keys[l] b).keys.length:=Classical.byContradiction fun hc=>hone ⟨sa,sb,hj.stands hr (by omega) (.inr (by omega)),by omega⟩
   have hc1:4≤cutAt a b∧cutAt a b≤8∧cutAt a b<(joinN a n.keys[l] b).keys.length:=by
     unfold cutAt
     split at hlenj <;> split <;> omega
   have hc2:4≤(joinN a n.keys[l] b).keys.length - (if (joinN a n.keys[l] b).leaf then cutAt a b else cutAt a b+1)∧(joinN a n.keys[l] b).keys.length - (if (joinN a n.keys[l] b).leaf then cutAt a b else cutAt a b+1)≤8:=by
     rw[hjl]
     unfold cutAt
     cases hal:a.leaf <;> rw[hal]at hlenj <;> simp only[if_true,if_false,Bool.false_eq_true]at hlenj ⊢ <;> split <;> omega
   obtain ⟨k1,k2,k3,k4,k5,k6,k7,k8,k9,k10,Pl,Bl,Pr,Br,c1,c2,hP,hB⟩:=spl_ok hj hc1.2.2 (by omega)
   generalize joinN a n.keys[l] b=jn at *
   generalize cutAt a b=c at *
   have ll:(splL jn c).keys.length=c:=by rw[k9,List.length_take];omega
   have lr:(splR jn c).keys.length=jn.keys.length - (if jn.leaf then c else c+1):=by rw[k10,List.length_drop]
   have okl:NdOK (splL jn c) false:=⟨c1.stands hr (by omega) (.inr (by omega)),by omega,.inr (by omega)⟩
   have okr:NdOK (splR jn c) false:=⟨c2.stands hr (by omega) (.inr (by omega)),by omega,.inr (by omega)⟩
   rcases store_ok he hr (ndok_up okl) with ⟨a1,a2,_⟩|⟨a1,a2,a3,a4,a5,a6⟩
   · rw[store_bad (e:=(storeE e (splL jn c)).2) (n:=splR jn c) (by rw[a1];decide)]
     exact .inl ⟨a1,by omega⟩
   · rcases store_ok a1 a2 (ndok_up okr) with ⟨b1,b2,_⟩|⟨b1,b2,b3,b4,b5,b6⟩
     · exact .inl ⟨b1,by omega⟩
     · generalize (storeE e (splL jn c)).1=s at a3 a5 a6 ⊢
       generalize (storeE e (splL jn c)).2=e1 at a1 a2 a3 a4 a6 b1 b2 b3 b4 b5 b6 ⊢
       have hs1:tr e1.w.now s.toNat=true:=hold_tr (a6 _ okl)
       have hh1:∀x∈B1++((Ba++Bb)++B3),tr e1.w.now x.toNat=true:=fun x hx=>by
         have h0:∃r m,Hold e.w x r=some m:=by
           rcases List.mem_append.1 hx with hx|hx
           · exact kseg_mem (fun c lo hi P B hc=>Tr.held hc) hseg x hx
           · rcases List.mem_append.1 hx with hx|hx
             · exact hj.held x hx
             · exact tail_mem (fun c lo hi P B hc=>Tr.held hc) htl x hx
         obtain ⟨r,m,hm⟩:=h0
         exact hold_tr (a3.hold (by simp) hm)
       generalize (storeE e1 (splR jn c)).1=t at b3 b5 b6 ⊢
       generalize (storeE e1 (splR jn c)).2=e2 at b1 b2 b3 b4 b6 ⊢
       have fr:∀(x:Int) (r:Bool) (m:Nd),Hold e.w x r=some m→Hold e2.w x r=some m:=fun x r m hm=>b3.hold (by simp) (a3.hold (by simp) hm)
       have hs:s∉B1++((Ba++Bb)++B3):=fun hx=>by rw[hheld _ hx]at a5;cases a5
       have ht:t∉B1++((Ba++Bb)++B3):=fun hx=>by rw[hh1 _ hx]at b5;cases b5
       have hst:s≠t:=fun h=>by rw[h]at hs1;rw[hs1]at b5;cases b5
       have hT1:=cr_leaf (c1.frame fun x _ r m hm=>fr x r m hm) (List.ne_nil_of_length_pos (by omega)) (b3.hold (by simp) (a6 false okl))
       have hT2:=cr_leaf (c2.frame fun x _ r m hm=>fr x r m hm) (List.ne_nil_of_length_pos (by omega)) (b6 false okr)
       obtain ⟨g1,g2⟩:=htail _ k1
       have hk:=ktr_re (S:=fun c lo hi P B=>Tr (Hold e2.w) (j+1) c false lo hi P B) (m:=[splK jn c]) (cm:=[s,t]) (kseg_mono (fun c lo hi P B' _ hx=>Tr.frame (fun x _=>fr x) hx) hseg)
         (show KTr (fun c lo hi P B=>Tr (Hold e2.w) (j+1) c false lo hi P B) mid hi' [splK jn c] [s,t] (Pl++Pr) ((s :: Bl)++(t :: Br)) from ⟨_,_,_,_,hT1,hT2,rfl,rfl⟩) (htl.mono (fun c lo hi P B' _ hx=>Tr.frame (fun x _=>fr x) hx))
       rw[hB]at hu hs ht
       rw[hP,hB]
       refine .inr ⟨b1,b2,by omega,nl,?_,?_,_,_,a3.trans b3 (by simp),?_,fun x => ?_,fun k hk => ?_,kok_iff.2 ⟨rise_mid kr (fun k hk=>nlt_lt (hm1 k hk) k2) g1,fun k hk => ?_⟩,.inr ⟨nl,nv,hk⟩⟩
       · simp[twoN];omega
       · simp[twoN];omega
       · have e1:B1++(((s :: Bl)++(t :: Br))++B3)=B1++s :: (Bl++t :: (Br++B3)):=by simp
         have e2:B1++(Bl++t :: (Br++B3))=(B1++Bl)++t :: (Br++B3):=by simp
         have e3:(B1++Bl)++(Br++B3)=B1++((Bl++Br)++B3):=by simp
         rw[e1]
         refine (List.perm_middle.nodup_iff).2 (List.nodup_cons.2 ⟨fun hx => ?_,?_⟩)
         · have hx:s∈B1∨s∈Bl∨s=t∨s∈Br∨s∈B3:=by simpa using hx
           refine hs ?_
           rcases hx with h|h|h|h|h
           · simp[h]
           · simp[h]
           · exact absurd h hst
           · simp[h]
           · simp[h]
         · rw[e2]
           refine (List.perm_middle.nodup_iff).2 (List.nodup_cons.2 ⟨?_,?_⟩)
           · rw[e3];exact ht
           · rw[e3];exact hu
       · simp only[List.mem_append,List.mem_cons,List.not_mem_nil,or_false]
         constructor
         · rintro (h|((h|h)|(h|h))|h) <;> simp[h]
         · rintro ((h|h)|h|(h|h)|h) <;> simp[h]
       · rcases List.mem_append.1 hk with h|h
         · exact nw k (List.mem_of_mem_take h)
         · rcases List.mem_cons.1 h with rfl|h
           · exact g2
           · exact nw k (List.mem_of_mem_drop h)
       · rcases List.mem_append.1 hk with h|h
         · exact kz k (List.mem_of_mem_take h)
         · rcases List.mem_cons.1 h with rfl|h
           · exact ⟨k3,k4⟩
           · exact kz k (List.mem_of_mem_drop h)
end Go.Proofs.YtclgengkohbjjaaGreatDoor.M
