import Derived.Test.YtclgengkohbjjaaGreatDoorR4EdZ
import Derived.Test.YtclgengkohbjjaaGreatDoorProg
import Derived.Test.YtclgengkohbjjaaGreatDoorMirI
import Derived.Test.YtclgengkohbjjaaGreatDoorMirL
import Derived.KernelRfl
import Derived.Test.YtclgengkohbjjaaGreatDoorR4EV
import Derived.Test.YtclgengkohbjjaaGreatDoorR4FunB
import Derived.Test.YtclgengkohbjjaaGreatDoorR4Ord
import Derived.Test.YtclgengkohbjjaaGreatDoorR4LW
namespace Go.Proofs.YtclgengkohbjjaaGreatDoor.M
set_option linter.unusedVariables false
set_option linter.unusedSimpArgs false
open Go Go.Mir
set_option linter.unusedVariables false
set_option maxRecDepth 100000 in
set_option maxHeartbeats 8000000 in
theorem p75 {w0:Wd} (key:ByteArray) (e:Ed) (v:Nat) (hI:Inv w0 e) (n:Nd) (hn:Shp n) (hnl:n.leaf=false) (hnk:1≤n.keys.length) (i:Nat) (hi:i≤n.keys.length) (kid:Nd) (hk:Shp kid) (hk4:kid.keys.length<4) (d:Int) (hd:1≤d∧d≤100):
  ∃fz a b K C,Runs Fs3 75 [.ptr 1700504 0,.agg [.n (.bool n.leaf),.row 5151502 0,.o (.sl 1 (sl_ n.vals)),.row 5151505 0],.n (.int .i64 i),ndV kid,.n (.int .i64 d)] (hF key e v false 0 0 (sl_ n.keys) (il n.kids)) (ndV (fillE e n i kid d).1) (hF key (fillE e n i kid d).2 v fz a b K C):=by
 have main:∃r H',Runs Fs3 75 [.ptr 1700504 0,.agg [.n (.bool n.leaf),.row 5151502 0,.o (.sl 1 (sl_ n.vals)),.row 5151505 0],.n (.int .i64 i),ndV kid,.n (.int .i64 d)] (hF key e v false 0 0 (sl_ n.keys) (il n.kids)) r H'∧(r=ndV (fillE e n i kid d).1∧∃fz a b K C,H'=hF key (fillE e n i kid d).2 v fz a b K C):=by
  refine vc_objs (R:=fun r H'=>r=ndV (fillE e n i kid d).1∧∃fz a b K C,H'=hF key (fillE e n i kid d).2 v fz a b K C) fs75 rfl (by kernel_rfl) ?_
  obtain ⟨n1,n2⟩:=hn.inner hnl
  obtain ⟨n3,_,n4⟩:=hn.lens
  obtain ⟨m1,m2,m3⟩:=hk.lens
  have hlk:i - 1<n.keys.length:=by omega
  have eL:mmI true (IntKind.wrap .i64 ((i:Int) - 1)) 0=((i - 1:Nat):Int):=by
    rw[i64_in _ (by omega)]
    unfold mmI
    simp only[if_true]
    split <;> omega
  rw[ndV]
  show Vc Fs3 c75.body _ [(1700504,.box [.ptr 5000202 0,.n (.str key)]),(5000202,.box [.o (.sl 1 (blD e.w.base)),.o (.sl 1 (blD e.w.now)),.row 5050102 v,.n (.int .i64 e.w.root),.n (.int .i64 e.w.gen),.n (.int .i64 e.bad)]),(5050102,.row false false v 9 1 (sl_ e.w.pages)),(5151502,.row false false 0 9 1 (sl_ n.keys)),(5151505,.row false false 0 3 1 (il n.kids))] (endQH c75 [(1700504,.box [.ptr 5000202 0,.n (.str key)]),(5000202,.box [.o (.sl 1 (blD e.w.base)),.o (.sl 1 (blD e.w.now)),.row 5050102 v,.n (.int .i64 e.w.root),.n (.int .i64 e.w.gen),.n (.int .i64 e.bad)]),(5050102,.row false false v 9 1 (sl_ e.w.pages)),(5151502,.row false false 0 9 1 (sl_ n.keys)),(5151505,.row false false 0 3 1 (il n.kids))] _)
  rw[vc75h,(V75he _ _ _ _ _ _ _ _ _ _ _ _ _ _ _ _ _ _ _ _ _).down,eL]
  have e1:IntKind.wrap .i64 ((i:Int)+1)=((i+1:Nat):Int):=by rw[i64_in _ (by omega)];omega
  have e3:(d+1==1)=false:=by simp;omega
  rw[e1,i64_in (d+1) (by omega)]
  unfold fillE
  dsimp only
  refine sel_intro (fun hli => ?_) (fun hli => ?_)
  · have hli':i - 1=i:=by have:=eq_of_beq hli;omega
    have hic:i+1<n.kids.length:=by omega
    rw[if_pos hli',if_pos hli']
    rw[List.getElem?_eq_getElem hic,Option.getD_some]
    have c1:=p71 e v hI.right n.kids[i+1] (d+1)
    obtain ⟨l1,l2⟩:=load_inv (b:=n.kids[i+1]) (d:=d+1) hI
    refine ⟨⟨rfl,rfl⟩,by omega,by rw[il_len];omega,⟨rfl,rfl⟩,_,il_at hic,_,rfl,_,_,_,_,_,_,_,_,_,_,_,_,c1,?_⟩
    have c9:=p102 key (loadE e n.kids[i+1] (d+1)).2 v
    refine sel_intro (fun hb => ?_) (fun hb => ?_)
    · have hb:(loadE e n.kids[i+1] (d+1)).2.bad≠0:=by simpa using hb
      rw[if_pos (.inl hb)]
      exact ⟨_,_,_,_,_,_,_,_,_,c9,rfl,_,_,_,_,_,rfl⟩
    · have hb:(loadE e n.kids[i+1] (d+1)).2.bad=0:=by simpa using hb
      refine sel_intro (fun hlf => ?_) (fun hlf => ?_)
      · have hlf:(loadE e n.kids[i+1] (d+1)).1.leaf≠kid.leaf:=fun h=>by rw[h]at hlf;simp at hlf
        rw[if_pos (.inr hlf)]
        exact ⟨_,_,_,_,_,_,_,_,_,c9,rfl,_,_,_,_,_,rfl⟩
      · have hlf:(loadE e n.kids[i+1] (d+1)).1.leaf=kid.leaf:=by simpa using hlf
        rw[if_neg (fun h=>h.elim (fun h=>h hb) (fun h=>h hlf))]
        obtain ⟨l3,l4,l5,l6⟩:=l2 hb
        rw[e3]at l5
        have hok:=hold_ok l5
        have sh:=shp_of hok.1 hok.2.1
        have h4:4≤(loadE e n.kids[i+1] (d+1)).1.keys.length:=by rcases hok.2.2 with h|h;cases h;exact h
        obtain ⟨d1,d2⟩:=drop_inv (b:=n.kids[i+1]) l1 hb (by rw[l4];exact l5)
        have c2:=p72 (loadE e n.kids[i+1] (d+1)).2 v l1.right n.kids[i+1]
        refine ⟨⟨rfl,rfl⟩,by omega,by rw[il_len];omega,⟨rfl,rfl⟩,_,il_at hic,_,rfl,_,_,_,_,_,_,_,_,c2,?_⟩
        generalize (loadE e n.kids[i+1] (d+1)).1=nx at l5 hok sh h4 hlf ⊢
        generalize dropE (loadE e n.kids[i+1] (d+1)).2 n.kids[i+1]=e2 at d1 d2 ⊢
        have sa:Shp kid:=hk
        have sb:Shp nx:=sh
        have fa:=sa.fits
        have fb:=sb.fits
        have hab:kid.leaf=nx.leaf:=hlf.symm
        have hx:nx.keys.length<kid.keys.length∨2≤nx.keys.length:=by omega
        refine sel_intro (fun _ => ?_) (fun h=>by rw[hli]at h;cases h)
        refine ⟨⟨rfl,rfl⟩,by omega,by rw[sl_len];omega,⟨rfl,rfl⟩,_,sl_at hlk,_,rfl,?_⟩
        have gj:=p103 kid n.keys[i - 1] nx fa fb
        have gk:((n.keys[i - 1]?).getD empS)=n.keys[i - 1]:=by rw[List.getElem?_eq_getElem hlk];rfl
        have ge:=p105 kid n.keys[i - 1] nx sa sb hab hx
        have fj:=joinN_fits n.keys[i - 1] sa sb
        have even:¬(Stands kid∧Stands nx∧Stands (joinN kid n.keys[i - 1] nx)∧(joinN kid n.keys[i - 1] nx).keys.length≤8) →
            joinE e2 n (i - 1) kid nx=(twoN n (i - 1) (storeE e2 (splL (joinN kid n.keys[i - 1] nx) (cutAt kid nx))).1 (splK (joinN kid n.keys[i - 1] nx) (cutAt kid nx)) (storeE (storeE e2 (splL (joinN kid n.keys[i - 1] nx) (cutAt kid nx))).2 (splR (joinN kid n.keys[i - 1] nx) (cutAt kid nx))).1,(storeE (storeE e2 (splL (joinN kid n.keys[i - 1] nx) (cutAt kid nx))).2 (splR (joinN kid n.keys[i - 1] nx) (cutAt kid nx))).2):=fun h=>by
          unfold joinE
          dsimp only
          rw[gk,if_neg h]
        have s1:=p52 e2 v (fun _=>d1.right) (splL (joinN kid n.keys[i - 1] nx) (cutAt kid nx)) (spl_fits fj _).1
        have s2:=p52 (storeE e2 (splL (joinN kid n.keys[i - 1] nx) (cutAt kid nx))).2 v (fun _=>(store_inv d1).1.right) (splR (joinN kid n.keys[i - 1] nx) (cutAt kid nx)) (spl_fits fj _).2
        have sj:=p52 e2 v (fun _=>d1.right) (joinN kid n.keys[i - 1] nx) fj.1
        rw[EvenV]at ge
        by_cases hj:Stands kid∧Stands nx∧kid.leaf=nx.leaf∧Stands (joinN kid n.keys[i - 1] nx)
        · rw[JoinV,if_pos hj]at gj
          refine ⟨_,_,_,_,_,gj,sel_intro (fun _ => ?_) (fun h=>by simp at h)⟩
          refine sel_dec (fun h8 => ?_) (fun h8 => ?_)
          · have h8:(joinN kid n.keys[i - 1] nx).keys.length≤8:=by rw[sl_len]at h8;omega
            have ej:joinE e2 n (i - 1) kid nx=(oneN n (i - 1) (storeE e2 (joinN kid n.keys[i - 1] nx)).1,(storeE e2 (joinN kid n.keys[i - 1] nx)).2):=by
             unfold joinE
             dsimp only
             rw[gk,if_pos ⟨hj.1,hj.2.1,hj.2.2.2,h8⟩]
            rw[ej]
            generalize storeE e2 (joinN kid n.keys[i - 1] nx)=q at sj ⊢
            rw[show IntKind.wrap .i64 (((i - 1:Nat):Int)+1)=((i - 1+1:Nat):Int) by rw[i64_in _ (by omega)];omega,show IntKind.wrap .i64 (((i - 1:Nat):Int)+2)=((i - 1+1+1:Nat):Int) by rw[i64_in _ (by omega)];omega]
            refine ⟨_,_,_,_,_,_,_,_,_,sj,⟨rfl,rfl⟩,by omega,by rw[il_len];omega,⟨⟨⟨rfl,rfl⟩,rfl⟩,rfl⟩,by rw[il_len];omega,_,del_s n.keys (i - 1) hlk rfl,_,del_i (n.kids.set (i - 1) q.1) (i - 1+1) (by rw[List.length_set];omega) (congrArg (fun z=>some (Ob.row false false 0 3 1 z)) (il_set n.kids (i - 1) q.1)),rfl,rfl,?_⟩
            refine ⟨?_,_,_,_,_,_,rfl⟩
            rw[oneN,ndV,set_del (by omega)];rfl
          · have h8:¬(joinN kid n.keys[i - 1] nx).keys.length≤8:=by rw[sl_len]at h8;omega
            rw[even fun h=>h8 h.2.2.2]
            generalize storeE e2 (splL (joinN kid n.keys[i - 1] nx) (cutAt kid nx))=q at s1 s2 ⊢
            generalize storeE q.2 (splR (joinN kid n.keys[i - 1] nx) (cutAt kid nx))=q2 at s2 ⊢
            rw[show IntKind.wrap .i64 (((i - 1:Nat):Int)+1)=((i - 1+1:Nat):Int) by rw[i64_in _ (by omega)];omega]
            refine ⟨⟨rfl,rfl⟩,by omega,by rw[sl_len];omega,⟨rfl,rfl⟩,_,sl_at hlk,_,rfl,_,_,_,_,_,_,_,_,_,ge,_,_,_,_,_,_,_,_,_,s1,⟨rfl,rfl⟩,by omega,by rw[il_len];omega,⟨⟨⟨rfl,rfl⟩,rfl⟩,rfl⟩,by rw[il_len];omega,_,_,_,_,_,_,_,_,_,s2,⟨rfl,rfl⟩,by omega,by rw[List.length_set,il_len];omega,⟨⟨⟨rfl,rfl⟩,rfl⟩,rfl⟩,by rw[List.length_set,il_len];omega,⟨rfl,rfl⟩,by omega,by rw[sl_len];omega,⟨⟨⟨rfl,rfl⟩,rfl⟩,rfl⟩,by rw[sl_len];omega,rfl,rfl,?_⟩
            refine ⟨?_,_,_,_,_,_,rfl⟩
            rw[show Int.toNat ((i - 1+1:Nat):Int)=i - 1+1 from rfl,show Int.toNat ((i - 1:Nat):Int)=i - 1 from rfl,il_set,il_set,sl_set,twoN,ndV,set_two (by omega),set_split (by omega)]
        · rw[JoinV,if_neg hj]at gj
          refine ⟨_,_,_,_,_,gj,sel_intro (fun h=>by simp at h) (fun _ => ?_)⟩
          rw[even fun h=>hj ⟨h.1,h.2.1,hab,h.2.2.1⟩]
          generalize storeE e2 (splL (joinN kid n.keys[i - 1] nx) (cutAt kid nx))=q at s1 s2 ⊢
          generalize storeE q.2 (splR (joinN kid n.keys[i - 1] nx) (cutAt kid nx))=q2 at s2 ⊢
          rw[show IntKind.wrap .i64 (((i - 1:Nat):Int)+1)=((i - 1+1:Nat):Int) by rw[i64_in _ (by omega)];omega]
          refine ⟨⟨rfl,rfl⟩,by omega,by rw[sl_len];omega,⟨rfl,rfl⟩,_,sl_at hlk,_,rfl,_,_,_,_,_,_,_,_,_,ge,_,_,_,_,_,_,_,_,_,s1,⟨rfl,rfl⟩,by omega,by rw[il_len];omega,⟨⟨⟨rfl,rfl⟩,rfl⟩,rfl⟩,by rw[il_len];omega,_,_,_,_,_,_,_,_,_,s2,⟨rfl,rfl⟩,by omega,by rw[List.length_set,il_len];omega,⟨⟨⟨rfl,rfl⟩,rfl⟩,rfl⟩,by rw[List.length_set,il_len];omega,⟨rfl,rfl⟩,by omega,by rw[sl_len];omega,⟨⟨⟨rfl,rfl⟩,rfl⟩,rfl⟩,by rw[sl_len];omega,rfl,rfl,?_⟩
          refine ⟨?_,_,_,_,_,_,rfl⟩
          rw[show Int.toNat ((i - 1+1:Nat):Int)=i - 1+1 from rfl,show Int.toNat ((i - 1:Nat):Int)=i - 1 from rfl,il_set,il_set,sl_set,twoN,ndV,set_two (by omega),set_split (by omega)]
  · have hli':¬i - 1=i:=fun h=>by rw[h]at hli;simp at hli
    have hic:i - 1<n.kids.length:=by omega
    rw[if_neg hli',if_neg hli']
    rw[List.getElem?_eq_getElem hic,Option.getD_some]
    have c1:=p71 e v hI.right n.kids[i - 1] (d+1)
    obtain ⟨l1,l2⟩:=load_inv (b:=n.kids[i - 1]) (d:=d+1) hI
    refine ⟨⟨rfl,rfl⟩,by omega,by rw[il_len];omega,⟨rfl,rfl⟩,_,il_at hic,_,rfl,_,_,_,_,_,_,_,_,_,_,_,_,c1,?_⟩
    have c9:=p102 key (loadE e n.kids[i - 1] (d+1)).2 v
    refine sel_intro (fun hb => ?_) (fun hb => ?_)
    · have hb:(loadE e n.kids[i - 1] (d+1)).2.bad≠0:=by simpa using hb
      rw[if_pos (.inl hb)]
      exact ⟨_,_,_,_,_,_,_,_,_,c9,rfl,_,_,_,_,_,rfl⟩
    · have hb:(loadE e n.kids[i - 1] (d+1)).2.bad=0:=by simpa using hb
      refine sel_intro (fun hlf => ?_) (fun hlf => ?_)
      · have hlf:(loadE e n.kids[i - 1] (d+1)).1.leaf≠kid.leaf:=fun h=>by rw[h]at hlf;simp at hlf
        rw[if_pos (.inr hlf)]
        exact ⟨_,_,_,_,_,_,_,_,_,c9,rfl,_,_,_,_,_,rfl⟩
      · have hlf:(loadE e n.kids[i - 1] (d+1)).1.leaf=kid.leaf:=by simpa using hlf
        rw[if_neg (fun h=>h.elim (fun h=>h hb) (fun h=>h hlf))]
        obtain ⟨l3,l4,l5,l6⟩:=l2 hb
        rw[e3]at l5
        have hok:=hold_ok l5
        have sh:=shp_of hok.1 hok.2.1
        have h4:4≤(loadE e n.kids[i - 1] (d+1)).1.keys.length:=by rcases hok.2.2 with h|h;cases h;exact h
        obtain ⟨d1,d2⟩:=drop_inv (b:=n.kids[i - 1]) l1 hb (by rw[l4];exact l5)
        have c2:=p72 (loadE e n.kids[i - 1] (d+1)).2 v l1.right n.kids[i - 1]
        refine ⟨⟨rfl,rfl⟩,by omega,by rw[il_len];omega,⟨rfl,rfl⟩,_,il_at hic,_,rfl,_,_,_,_,_,_,_,_,c2,?_⟩
        generalize (loadE e n.kids[i - 1] (d+1)).1=nx at l5 hok sh h4 hlf ⊢
        generalize dropE (loadE e n.kids[i - 1] (d+1)).2 n.kids[i - 1]=e2 at d1 d2 ⊢
        have sa:Shp nx:=sh
        have sb:Shp kid:=hk
        have fa:=sa.fits
        have fb:=sb.fits
        have hab:nx.leaf=kid.leaf:=hlf
        have hx:kid.keys.length<nx.keys.length∨2≤kid.keys.length:=by omega
        refine sel_intro (fun h=>by rw[hli]at h;cases h) (fun _ => ?_)
        refine ⟨⟨rfl,rfl⟩,by omega,by rw[sl_len];omega,⟨rfl,rfl⟩,_,sl_at hlk,_,rfl,?_⟩
        have gj:=p103 nx n.keys[i - 1] kid fa fb
        have gk:((n.keys[i - 1]?).getD empS)=n.keys[i - 1]:=by rw[List.getElem?_eq_getElem hlk];rfl
        have ge:=p105 nx n.keys[i - 1] kid sa sb hab hx
        have fj:=joinN_fits n.keys[i - 1] sa sb
        have even:¬(Stands nx∧Stands kid∧Stands (joinN nx n.keys[i - 1] kid)∧(joinN nx n.keys[i - 1] kid).keys.length≤8) →
            joinE e2 n (i - 1) nx kid=(twoN n (i - 1) (storeE e2 (splL (joinN nx n.keys[i - 1] kid) (cutAt nx kid))).1 (splK (joinN nx n.keys[i - 1] kid) (cutAt nx kid)) (storeE (storeE e2 (splL (joinN nx n.keys[i - 1] kid) (cutAt nx kid))).2 (splR (joinN nx n.keys[i - 1] kid) (cutAt nx kid))).1,(storeE (storeE e2 (splL (joinN nx n.keys[i - 1] kid) (cutAt nx kid))).2 (splR (joinN nx n.keys[i - 1] kid) (cutAt nx kid))).2):=fun h=>by
          unfold joinE
          dsimp only
          rw[gk,if_neg h]
        have s1:=p52 e2 v (fun _=>d1.right) (splL (joinN nx n.keys[i - 1] kid) (cutAt nx kid)) (spl_fits fj _).1
        have s2:=p52 (storeE e2 (splL (joinN nx n.keys[i - 1] kid) (cutAt nx kid))).2 v (fun _=>(store_inv d1).1.right) (splR (joinN nx n.keys[i - 1] kid) (cutAt nx kid)) (spl_fits fj _).2
        have sj:=p52 e2 v (fun _=>d1.right) (joinN nx n.keys[i - 1] kid) fj.1
        rw[EvenV]at ge
        by_cases hj:Stands nx∧Stands kid∧nx.leaf=kid.leaf∧Stands (joinN nx n.keys[i - 1] kid)
        · rw[JoinV,if_pos hj]at gj
          refine ⟨_,_,_,_,_,gj,sel_intro (fun _ => ?_) (fun h=>by simp at h)⟩
          refine sel_dec (fun h8 => ?_) (fun h8 => ?_)
          · have h8:(joinN nx n.keys[i - 1] kid).keys.length≤8:=by rw[sl_len]at h8;omega
            have ej:joinE e2 n (i - 1) nx kid=(oneN n (i - 1) (storeE e2 (joinN nx n.keys[i - 1] kid)).1,(storeE e2 (joinN nx n.keys[i - 1] kid)).2):=by
             unfold joinE
             dsimp only
             rw[gk,if_pos ⟨hj.1,hj.2.1,hj.2.2.2,h8⟩]
            rw[ej]
            generalize storeE e2 (joinN nx n.keys[i - 1] kid)=q at sj ⊢
            rw[show IntKind.wrap .i64 (((i - 1:Nat):Int)+1)=((i - 1+1:Nat):Int) by rw[i64_in _ (by omega)];omega,show IntKind.wrap .i64 (((i - 1:Nat):Int)+2)=((i - 1+1+1:Nat):Int) by rw[i64_in _ (by omega)];omega]
            refine ⟨_,_,_,_,_,_,_,_,_,sj,⟨rfl,rfl⟩,by omega,by rw[il_len];omega,⟨⟨⟨rfl,rfl⟩,rfl⟩,rfl⟩,by rw[il_len];omega,_,del_s n.keys (i - 1) hlk rfl,_,del_i (n.kids.set (i - 1) q.1) (i - 1+1) (by rw[List.length_set];omega) (congrArg (fun z=>some (Ob.row false false 0 3 1 z)) (il_set n.kids (i - 1) q.1)),rfl,rfl,?_⟩
            refine ⟨?_,_,_,_,_,_,rfl⟩
            rw[oneN,ndV,set_del (by omega)];rfl
          · have h8:¬(joinN nx n.keys[i - 1] kid).keys.length≤8:=by rw[sl_len]at h8;omega
            rw[even fun h=>h8 h.2.2.2]
            generalize storeE e2 (splL (joinN nx n.keys[i - 1] kid) (cutAt nx kid))=q at s1 s2 ⊢
            generalize storeE q.2 (splR (joinN nx n.keys[i - 1] kid) (cutAt nx kid))=q2 at s2 ⊢
            rw[show IntKind.wrap .i64 (((i - 1:Nat):Int)+1)=((i - 1+1:Nat):Int) by rw[i64_in _ (by omega)];omega]
            refine ⟨⟨rfl,rfl⟩,by omega,by rw[sl_len];omega,⟨rfl,rfl⟩,_,sl_at hlk,_,rfl,_,_,_,_,_,_,_,_,_,ge,_,_,_,_,_,_,_,_,_,s1,⟨rfl,rfl⟩,by omega,by rw[il_len];omega,⟨⟨⟨rfl,rfl⟩,rfl⟩,rfl⟩,by rw[il_len];omega,_,_,_,_,_,_,_,_,_,s2,⟨rfl,rfl⟩,by omega,by rw[List.length_set,il_len];omega,⟨⟨⟨rfl,rfl⟩,rfl⟩,rfl⟩,by rw[List.length_set,il_len];omega,⟨rfl,rfl⟩,by omega,by rw[sl_len];omega,⟨⟨⟨rfl,rfl⟩,rfl⟩,rfl⟩,by rw[sl_len];omega,rfl,rfl,?_⟩
            refine ⟨?_,_,_,_,_,_,rfl⟩
            rw[show Int.toNat ((i - 1+1:Nat):Int)=i - 1+1 from rfl,show Int.toNat ((i - 1:Nat):Int)=i - 1 from rfl,il_set,il_set,sl_set,twoN,ndV,set_two (by omega),set_split (by omega)]
        · rw[JoinV,if_neg hj]at gj
          refine ⟨_,_,_,_,_,gj,sel_intro (fun h=>by simp at h) (fun _ => ?_)⟩
          rw[even fun h=>hj ⟨h.1,h.2.1,hab,h.2.2.1⟩]
          generalize storeE e2 (splL (joinN nx n.keys[i - 1] kid) (cutAt nx kid))=q at s1 s2 ⊢
          generalize storeE q.2 (splR (joinN nx n.keys[i - 1] kid) (cutAt nx kid))=q2 at s2 ⊢
          rw[show IntKind.wrap .i64 (((i - 1:Nat):Int)+1)=((i - 1+1:Nat):Int) by rw[i64_in _ (by omega)];omega]
          refine ⟨⟨rfl,rfl⟩,by omega,by rw[sl_len];omega,⟨rfl,rfl⟩,_,sl_at hlk,_,rfl,_,_,_,_,_,_,_,_,_,ge,_,_,_,_,_,_,_,_,_,s1,⟨rfl,rfl⟩,by omega,by rw[il_len];omega,⟨⟨⟨rfl,rfl⟩,rfl⟩,rfl⟩,by rw[il_len];omega,_,_,_,_,_,_,_,_,_,s2,⟨rfl,rfl⟩,by omega,by rw[List.length_set,il_len];omega,⟨⟨⟨rfl,rfl⟩,rfl⟩,rfl⟩,by rw[List.length_set,il_len];omega,⟨rfl,rfl⟩,by omega,by rw[sl_len];omega,⟨⟨⟨rfl,rfl⟩,rfl⟩,rfl⟩,by rw[sl_len];omega,rfl,rfl,?_⟩
          refine ⟨?_,_,_,_,_,_,rfl⟩
          rw[show Int.toNat ((i - 1+1:Nat):Int)=i - 1+1 from rfl,show Int.toNat ((i - 1:Nat):Int)=i - 1 from rfl,il_set,il_set,sl_set,twoN,ndV,set_two (by omega),set_split (by omega)]
 obtain ⟨r,H',h,rfl,fz,a,b,K,C,rfl⟩:=main
 exact ⟨fz,a,b,K,C,h⟩
theorem join_shp {e:Ed} {n a b:Nd} {l:Nat} (hn:Shp n) (hnl:n.leaf=false) (hl:l<n.keys.length):Shp (joinE e n l a b).1:=by
 have h8:=hn.1
 obtain ⟨h1,h2⟩:=hn.inner hnl
 unfold joinE
 dsimp only
 split
 · refine ⟨?_,.inr ⟨hnl,h1,?_⟩⟩ <;> (unfold oneN;dsimp only;simp only[List.length_append,List.length_take,List.length_drop,List.length_cons];omega)
 · refine ⟨?_,.inr ⟨hnl,h1,?_⟩⟩ <;> (unfold twoN;dsimp only;simp only[List.length_append,List.length_take,List.length_drop,List.length_cons];omega)
theorem fill_shp {w0:Wd} {e:Ed} {n kid:Nd} {i:Nat} {d:Int} (hI:Inv w0 e) (hn:Shp n) (hnl:n.leaf=false) (hnk:1≤n.keys.length) (hi:i≤n.keys.length) (hb:(fillE e n i kid d).2.bad=0):Shp (fillE e n i kid d).1:=by
 unfold fillE at hb ⊢
 dsimp only at hb ⊢
 generalize ((n.kids[if i - 1=i then i+1 else i - 1]?).getD 0)=blk at hb ⊢
 by_cases hc:(loadE e blk (d+1)).2.bad≠0∨(loadE e blk (d+1)).1.leaf≠kid.leaf
 · rw[if_pos hc]at hb
   exact absurd hb (fail_inv (load_inv (b:=blk) (d:=d+1) hI).1).2
 · rw[if_neg hc]
   split
   · exact join_shp hn hnl (by omega)
   · exact join_shp hn hnl (by omega)
theorem wit_shp {n:Nd} {i:Nat} (hn:Shp n) (hl:n.leaf=true) (hi:i<n.keys.length):Shp (witN n i):=by
 have h8:=hn.1
 obtain ⟨h1,h2⟩:=hn.leaf hl
 refine ⟨?_,.inl ⟨hl,?_,h2⟩⟩ <;> (unfold witN delAt;dsimp only;simp only[List.length_append,List.length_take,List.length_drop];omega)
set_option maxHeartbeats 4000000 in
theorem p51 {w0:Wd} (key:ByteArray):∀(f:Nat) (e:Ed) (v:Nat) (b d:Int),d+f=10→1≤d→1≤f→Inv w0 e →
   Runs Fs3 51 [.ptr 1700504 0,.n (.int .i64 b),.n (.int .i64 d)] (hP key e v) (ndV (remE key f e b d).1) (hP key (remE key f e b d).2 v)∧((remE key f e b d).2.bad=0→Shp (remE key f e b d).1)
 | 0,e,v,b,d,_,_,h,_=>absurd h (by omega)
 | f+1,e,v,b,d,hd,h1,_,hI=>by
   have c1:=p71 e v hI.right b d
   obtain ⟨l1,l2⟩:=load_inv (b:=b) (d:=d) hI
   rw[remE]
   dsimp only
   by_cases hb:(loadE e b d).2.bad=0
   · rw[if_neg (by simpa using hb)]
     obtain ⟨l3,l4,l5,l6⟩:=l2 hb
     have hok:=hold_ok l5
     have hs:=hok.1
     have sh:=shp_of hs hok.2.1
     have hfit:=nd_fits hs
     obtain ⟨k1,k2,k3⟩:=st_lens hs
     obtain ⟨d1,d2⟩:=drop_inv l1 hb (by rw[l4];exact l5)
     have c2:=p72 (loadE e b d).2 v l1.right b
     have hbf:((loadE e b d).2.bad != 0)=false:=by simpa using hb
     generalize (loadE e b d).1=n at c1 l5 hok hs sh hfit k1 k2 k3 ⊢
     generalize (loadE e b d).2=e1 at c1 l1 hb hbf d1 d2 c2 ⊢
     have hd9:d≤8:=l6
     generalize dropE e1 b=e2 at c2 d1 d2 ⊢
     -- what is to be shown, by the condition
     have go:∀ {r:Nd} {e':Ed},V51h key (blD e.w.base) (blD e.w.now) v e.w.root e.w.gen e.bad (sl_ e.w.pages) b d (fun r' H'=>r'=ndV r∧H'=hP key e' v) →
         Runs Fs3 51 [.ptr 1700504 0,.n (.int .i64 b),.n (.int .i64 d)] (hP key e v) (ndV r) (hP key e' v):=fun {r e'} hV=>by
       refine vc_mut fs51 rfl (by kernel_rfl) ?_
       have:=vc51h key (blD e.w.base) (blD e.w.now) v e.w.root e.w.gen e.bad (sl_ e.w.pages) b d (fun r' H'=>r'=ndV r∧H'=hP key e' v)
       exact this▸hV
     cases hl:n.leaf with
     | true=>
       rw[if_pos rfl]
       have hsr:=srch_le n.keys key
       obtain ⟨v1,v2⟩:=st_leaf hs hl
       have c3:=(p64 n key hfit hs).up up3
       by_cases ha:isAt n.keys key=true
       · rw[if_pos ha]
         have hsl:=at_lt ha
         refine ⟨go ?_,fun _=>wit_shp sh hl hsl⟩
         rw[(V51he _ _ _ _ _ _ _ _ _ _ _).down]
         refine ⟨_,_,_,_,_,_,_,_,_,_,_,_,c1,sel_intro (fun h=>by rw[hbf]at h;cases h) (fun _=>⟨_,_,_,_,_,_,_,_,c2,sel_intro (fun _ => ?_) (fun h=>by rw[hl]at h;cases h)⟩)⟩
         refine ⟨_,_,c3,sel_intro (fun h=>by rw[ha]at h;cases h) (fun _ => ?_)⟩
         exact ⟨_,_,_,_,p73 n (srch n.keys key) hsl v2 (by omega),rfl,rfl⟩
       · rw[if_neg ha]
         have ha:isAt n.keys key=false:=by simpa using ha
         refine ⟨go ?_,fun h=>by cases h⟩
         rw[(V51he _ _ _ _ _ _ _ _ _ _ _).down]
         refine ⟨_,_,_,_,_,_,_,_,_,_,_,_,c1,sel_intro (fun h=>by rw[hbf]at h;cases h) (fun _=>⟨_,_,_,_,_,_,_,_,c2,sel_intro (fun _ => ?_) (fun h=>by rw[hl]at h;cases h)⟩)⟩
         exact ⟨_,_,c3,sel_intro (fun _=>⟨rfl,rfl⟩) (fun h=>by rw[ha]at h;cases h)⟩
     | false=>
       rw[if_neg (by simp)]
       obtain ⟨v1,v2⟩:=st_inner hs hl
       have hk:=kid_lt hs hl key
       have hki:=kidI_of hs.2.1 key
       have hkle:=kidOf_le n.keys key
       rw[hki]at hk
       have c3:=(p63i n key hfit hs hl).up up3
       rw[hki]at c3
       have hnk:1≤n.keys.length:=by
         rcases hs.2.2 with ⟨h,_⟩|⟨_,_,h,_⟩
         · rw[hl]at h;cases h
         · exact h
       obtain ⟨ih,ih2⟩:=p51 key f e2 v ((n.kids[kidOf n.keys key]?).getD 0) (d+1) (by omega) (by omega) (by omega) d1
       have ri:=rem_inv (key:=key) f e2 ((n.kids[kidOf n.keys key]?).getD 0) (d+1) d1
       generalize hrr:remE key f e2 ((n.kids[kidOf n.keys key]?).getD 0) (d+1)=r at ih ih2 ri ⊢
       rw[List.getElem?_eq_getElem hk,Option.getD_some]at ih
       obtain ⟨kid,e3⟩:=r
       dsimp only at ih ih2 ri ⊢
       by_cases hb3:e3.bad=0
       · rw[if_neg (by simpa using hb3)]
         have hb3f:(e3.bad != 0)=false:=by simpa using hb3
         have i3:Inv w0 e3:=by
           rcases ri with h|h
           · omega
           · exact h.1
         have ks:=ih2 hb3
         obtain ⟨q1,q2,q3⟩:=ks.lens
         by_cases h4:4≤kid.keys.length
         · rw[aftE,if_pos h4]
           have c4:=p52 e3 v (fun _=>i3.right) kid ks.fits
           refine ⟨go ?_,fun _=>⟨sh.1,.inr ⟨hl,v1,by dsimp only;rw[List.length_set];exact v2⟩⟩⟩
           rw[(V51he _ _ _ _ _ _ _ _ _ _ _).down]
           refine ⟨_,_,_,_,_,_,_,_,_,_,_,_,c1,sel_intro (fun h=>by rw[hbf]at h;cases h) (fun _=>⟨_,_,_,_,_,_,_,_,c2,sel_intro (fun h=>by rw[hl]at h;cases h) (fun _ => ?_)⟩)⟩
           rw[i64_in (d+1) (by omega)]
           refine ⟨_,c3,rfl,by omega,_,il_at hk,_,rfl,_,_,_,_,_,_,_,_,_,_,_,_,_,ih,sel_intro (fun h=>by rw[hb3f]at h;cases h) (fun _ => ?_)⟩
           refine ⟨_,_,clone_runs fs70 (sl_ n.keys) (by rw[sl_len];omega),_,_,clone_runs fs74 (il n.kids) (by rw[il_len];omega),sel_dec (fun _ => ?_) (fun h=>absurd (by rw[sl_len];omega) h)⟩
           refine ⟨_,_,_,_,_,_,_,_,_,c4,⟨rfl,rfl⟩,by omega,by rw[il_len];omega,⟨⟨⟨rfl,rfl⟩,rfl⟩,rfl⟩,by rw[il_len];omega,rfl,rfl,?_,rfl⟩
           rw[show Int.toNat ((kidOf n.keys key:Nat):Int)=kidOf n.keys key from rfl,il_set,hl];rfl
         · rw[aftE,if_neg h4]
           obtain ⟨fz,a,b2,K,C,c4⟩:=p75 key e3 v i3 n sh hl hnk (kidOf n.keys key) hkle kid ks (by omega) d ⟨h1,by omega⟩
           refine ⟨go ?_,fun h=>fill_shp i3 sh hl hnk hkle h⟩
           rw[(V51he _ _ _ _ _ _ _ _ _ _ _).down]
           refine ⟨_,_,_,_,_,_,_,_,_,_,_,_,c1,sel_intro (fun h=>by rw[hbf]at h;cases h) (fun _=>⟨_,_,_,_,_,_,_,_,c2,sel_intro (fun h=>by rw[hl]at h;cases h) (fun _ => ?_)⟩)⟩
           rw[i64_in (d+1) (by omega)]
           refine ⟨_,c3,rfl,by omega,_,il_at hk,_,rfl,_,_,_,_,_,_,_,_,_,_,_,_,_,ih,sel_intro (fun h=>by rw[hb3f]at h;cases h) (fun _ => ?_)⟩
           refine ⟨_,_,clone_runs fs70 (sl_ n.keys) (by rw[sl_len];omega),_,_,clone_runs fs74 (il n.kids) (by rw[il_len];omega),sel_dec (fun h=>absurd h (by rw[sl_len];omega)) (fun _ => ?_)⟩
           exact ⟨_,_,_,_,_,_,_,_,_,_,_,_,_,_,_,_,_,_,c4,rfl,rfl⟩
       · rw[if_pos hb3]
         have hb3f:(e3.bad != 0)=true:=by simpa using hb3
         refine ⟨go ?_,fun h=>absurd h hb3⟩
         rw[(V51he _ _ _ _ _ _ _ _ _ _ _).down]
         refine ⟨_,_,_,_,_,_,_,_,_,_,_,_,c1,sel_intro (fun h=>by rw[hbf]at h;cases h) (fun _=>⟨_,_,_,_,_,_,_,_,c2,sel_intro (fun h=>by rw[hl]at h;cases h) (fun _ => ?_)⟩)⟩
         rw[i64_in (d+1) (by omega)]
         exact ⟨_,c3,rfl,by omega,_,il_at hk,_,rfl,_,_,_,_,_,_,_,_,_,_,_,_,_,ih,sel_intro (fun _=>⟨rfl,rfl⟩) (fun h=>by rw[hb3f]at h;cases h)⟩
   · rw[if_pos hb]
     refine ⟨?_,fun h=>absurd h hb⟩
     refine vc_mut fs51 rfl (by kernel_rfl) ?_
     unfold hP hE hEz
     rw[vc51h,(V51he _ _ _ _ _ _ _ _ _ _ _).down]
     exact ⟨_,_,_,_,_,_,_,_,_,_,_,_,c1,sel_intro (fun _=>⟨rfl,rfl⟩) (fun h=>absurd h (by simpa using hb))⟩
theorem p49 (key:ByteArray):Runs Fs3 49 [.n (.str key)] [] (.n (.bool (decide (isKeyP key)))) []:=by
 refine vc_eq fs49 rfl ?_
 rw[vc49,(V49e _ _).down]
 refine sel_dec (fun h1 => ?_) (fun h1 => ?_)
 · congr 2
   rw[decide_eq_decide,isKeyP]
   omega
 · rw[decide_eq_false (by unfold isKeyP;omega)]
theorem p17 (w:Wd) (hf:WFits w) (key:ByteArray):Runs Fs3 17 [wdV w,.n (.str key)] [] (wuo (delW w key)) []:=by
 have g1:=(p48 w hf).up up3
 have g2:=p49 key
 refine vc_eq fs17 rfl ?_
 rw[wdV,vc17,(V17e _ _ _ _ _ _ _).down]
 refine ⟨_,g1,?_⟩
 by_cases hr:WRight w
 · rw[decide_eq_true hr]
   refine sel_intro (fun h=>by cases h) (fun _=>⟨_,g2,?_⟩)
   by_cases hp:isKeyP key
   · rw[decide_eq_true hp]
     refine sel_intro (fun h=>by cases h) (fun _ => ?_)
     have hlen:w.pages.length≤100000:=by have:=hr.2.1;have:=hr.1.2.2.1;omega
     have hI:=Inv.start hr
     rw[delW,if_neg (by simpa using ⟨hr,hp⟩)]
     refine sel_intro (fun h0 => ?_) (fun h0 => ?_)
     · rw[if_pos (by simpa using h0)];rfl
     · rw[if_neg (by simpa using h0)]
       obtain ⟨c1,q1⟩:=p51 key 9 ⟨w,0⟩ 0 w.root 1 (by omega) (by omega) (by omega) hI
       have ri:=rem_inv (key:=key) 9 ⟨w,0⟩ w.root 1 hI
       rw[delR]
       generalize remE key 9 ⟨w,0⟩ w.root 1=r at c1 q1 ri ⊢
       obtain ⟨n,e1⟩:=r
       dsimp only at c1 q1 ri ⊢
       refine ⟨(),_,_,_,_,_,_,_,_,p50 w hlen,_,_,_,_,_,_,_,_,_,_,_,_,_,c1,sel_intro (fun hb => ?_) (fun hb => ?_)⟩
       · have hb:e1.bad≠0:=by simpa using hb
         rw[if_pos hb,endE,if_pos (show (setRoot (0,e1)).bad≠0 from hb)];rfl
       · have hb:e1.bad=0:=by simpa using hb
         rw[if_neg (by simpa using hb)]
         have sh:=q1 hb
         have i1:Inv w e1:=by
           rcases ri with h|h
           · omega
           · exact h.1
         refine sel_dec (fun hk => ?_) (fun hk => ?_)
         · have hk:n.keys≠[]:=by rw[sl_len]at hk;intro h;rw[h]at hk;simp at hk
           rw[if_pos hk]
           have c2:=p52 e1 0 (fun _=>i1.right) n sh.fits
           have c3:=p53 (setRoot (storeE e1 n)) 0
           exact ⟨_,_,_,_,_,_,_,_,_,c2,_,_,_,_,_,_,_,_,_,_,_,_,_,_,_,c3,rfl⟩
         · have hk:n.keys=[]:=by rw[sl_len]at hk;exact List.length_eq_zero_iff.1 (by omega)
           rw[if_neg (by simpa using hk)]
           refine sel_intro (fun hl => ?_) (fun hl => ?_)
           · rw[if_pos hl]
             have c3:=p53 (setRoot (0,e1)) 0
             exact ⟨_,_,_,_,_,_,_,_,_,_,_,_,_,_,_,c3,rfl⟩
           · rw[if_neg (by rw[hl];simp)]
             obtain ⟨s1,s2⟩:=sh.inner hl
             have h0:0<n.kids.length:=by omega
             rw[List.getElem?_eq_getElem h0,Option.getD_some]
             have c3:=p53 (setRoot (n.kids[0],e1)) 0
             exact ⟨rfl,by decide,_,il_at h0,_,rfl,_,_,_,_,_,_,_,_,_,_,_,_,_,_,_,c3,rfl⟩
   · rw[decide_eq_false hp]
     refine sel_intro (fun _ => ?_) (fun h=>by cases h)
     rw[delW,if_pos (fun h=>hp h.2)];rfl
 · rw[decide_eq_false hr]
   refine sel_intro (fun _ => ?_) (fun h=>by cases h)
   rw[delW,if_pos (fun h=>hr h.1)];rfl
theorem drop_at' {α:Type} {l:List α} {i:Nat} (h:i<l.length):l.drop i=l[i] :: l.drop (i+1):=List.drop_eq_getElem_cons h
end Go.Proofs.YtclgengkohbjjaaGreatDoor.M
namespace Go.Proofs.YtclgengkohbjjaaGreatDoor.M
set_option linter.unusedVariables false
set_option linter.unusedSimpArgs false
open Go Go.Mir Go.Proofs
@[irreducible] noncomputable def b15:Cmd:=((Tryz.f15.body).bind (trC Tryz.prog [50,1000021] 15 [] [])).getD .skip
noncomputable def c15:FnC:=⟨15,14,[(.tmp 2)],b15,false,[(.agg [(.slo 1),(.slo 1),(.slo 1),(.int .i64),(.int .i64)])],.val (.one .bool),none,false,[]⟩
theorem is15:IsFn Tryz.prog 15 c15:=⟨⟨_,_,[50,1000021],[],[],Tryz.func15,rfl,(by kernel_rfl),rfl,(by kernel_rfl),(by kernel_rfl)⟩⟩
@[irreducible] noncomputable def b16:Cmd:=((Tryz.f16.body).bind (trC Tryz.prog [50,1000021] 16 [] [])).getD .skip
noncomputable def c16:FnC:=⟨16,10,[(.tmp 0)],b16,false,[],.val (.one .bool),none,false,[]⟩
theorem is16:IsFn Tryz.prog 16 c16:=⟨⟨_,_,[50,1000021],[],[],Tryz.func16,rfl,(by kernel_rfl),rfl,(by kernel_rfl),(by kernel_rfl)⟩⟩
def b19:Cmd:=(.seq (.region [(o 2 (.mov (.const (.bool false))))]) (.seq (.region [(m 3 0),(os 4 (.slen (T 3)) sI),(o 5 (.bin .geq (T 4) (N 1))),(m 6 5),(gd 7 (.mov (T 0)) 6 true),(gs 8 (.slen (T 7)) 6 true sI),(gd 9 (.bin .leq (T 8) (N 32)) 6 true),(o 10 (.pick (T 6) (T 9) (.const (.bool false)))),(m 2 10)]) .ret))
noncomputable def c19:FnC:=⟨19,11,[(.tmp 2)],b19,false,[(.one .str)],.val (.one .bool),none,false,[]⟩
theorem is19:IsFn Tryz.prog 19 c19:=⟨⟨_,_,[50,1000021],[],[],Tryz.func19,rfl,(by kernel_rfl),rfl,(by kernel_rfl),(by kernel_rfl)⟩⟩
def b20:Cmd:=(.seq (.region [(o 1 (.box 2000000 (T 0))),(o 2 (.mov (.const (.bool false))))]) (.seq (.region [(os 3 (.ld (T 1) (some 5)) (.val (.agg [(.slo 1),(.slo 1),(.slo 1),(.int .i64),(.int .i64)]))),(o 4 (.build [(.n .nil),(.n .nil),(.n .nil),(.n (.int .i64 0)),(.n (.int .i64 0))] [])),(os 5 (.call false 36 [(T 3),(T 4)]) sB),(m 2 5)]) .ret))
noncomputable def c20:FnC:=⟨20,6,[(.tmp 2)],b20,false,[(.agg [(.slo 1),(.slo 1),(.slo 1),(.int .i64),(.int .i64)])],.val (.one .bool),none,false,[]⟩
theorem is20:IsFn Tryz.prog 20 c20:=⟨⟨_,_,[50,1000021],[],[],Tryz.func20,rfl,(by kernel_rfl),rfl,(by kernel_rfl),(by kernel_rfl)⟩⟩
@[irreducible] noncomputable def b23:Cmd:=((Tryz.f23.body).bind (trC Tryz.prog [50,1000021] 23 [] [(5,[.keepF 23,.keep 1,.slot 3 (.one (.int .i64)),.keep 10,.slot 11 (.one (.int .i64)),.keepO 2300000])])).getD .skip
noncomputable def c23:FnC:=⟨23,21,[(.tmp 2)],b23,false,[(.agg [(.slo 1),(.slo 1)])],.val (.one (.int .i64)),none,false,[]⟩
theorem is23:IsFn Tryz.prog 23 c23:=⟨⟨_,_,[50,1000021],[],[(5,[.keepF 23,.keep 1,.slot 3 (.one (.int .i64)),.keep 10,.slot 11 (.one (.int .i64)),.keepO 2300000])],Tryz.func23,rfl,(by kernel_rfl),rfl,(by kernel_rfl),(by kernel_rfl)⟩⟩
@[irreducible] noncomputable def b24:Cmd:=((Tryz.f24.body).bind (trC Tryz.prog [50,1000021] 24 [(11,([2,3,4,5],[2401409],[],[])),(12,([2,4,5,117,118,119],[2401409],[],[])),(18,([2,4,5,117,118,119],[2401409],[],[]))] [(4,[.keepF 24,.keep 2,.keep 3,.keep 4,.keep 5,.keep 54,.slot 55 (.one (.int .i64)),.keepO 2400000,.keepO 2400001]),(12,[.keepF 24,.keep 2,.keep 4,.keep 5,.keep 117,.keep 118,.slot 119 (.one (.int .i64)),.keepO 2400000,.keepO 2400001])])).getD .skip
noncomputable def c24:FnC:=⟨24,162,[(.tmp 8)],b24,false,[(.agg [(.slo 1),(.slo 1),(.slo 1),(.int .i64),(.int .i64)]),(.agg [(.slo 1),(.slo 1),(.slo 1),(.int .i64),(.int .i64)]),(.one (.slo 1)),(.one (.slo 1))],.val (.one .bool),none,false,[]⟩
theorem is24:IsFn Tryz.prog 24 c24:=⟨⟨_,_,[50,1000021],[(11,([2,3,4,5],[2401409],[],[])),(12,([2,4,5,117,118,119],[2401409],[],[])),(18,([2,4,5,117,118,119],[2401409],[],[]))],[(4,[.keepF 24,.keep 2,.keep 3,.keep 4,.keep 5,.keep 54,.slot 55 (.one (.int .i64)),.keepO 2400000,.keepO 2400001]),(12,[.keepF 24,.keep 2,.keep 4,.keep 5,.keep 117,.keep 118,.slot 119 (.one (.int .i64)),.keepO 2400000,.keepO 2400001])],Tryz.func24,rfl,(by kernel_rfl),rfl,(by kernel_rfl),(by kernel_rfl)⟩⟩
@[irreducible] noncomputable def b26:Cmd:=((Tryz.f26.body).bind (trC Tryz.prog [50,1000021] 26 [(2,([0,1,5],[2600402,2600602,2600603],[],[])),(3,([1,5,9,10,11],[2600402,2600602,2600603],[],[])),(7,([1,5,9,10,11],[2600402,2600602,2600603],[],[]))] [(3,[.keepF 26,.keep 1,.rowIn 5 2600100,.keep 9,.keep 10,.slot 11 (.one (.int .i64)),.row 2600100 48 2 true])])).getD .skip
noncomputable def c26:FnC:=⟨26,25,[(.tmp 4)],b26,false,[(.one (.slo 2)),(.one .str)],.val (.one (.slo 2)),none,false,[]⟩
theorem is26:IsFn Tryz.prog 26 c26:=⟨⟨_,_,[50,1000021],[(2,([0,1,5],[2600402,2600602,2600603],[],[])),(3,([1,5,9,10,11],[2600402,2600602,2600603],[],[])),(7,([1,5,9,10,11],[2600402,2600602,2600603],[],[]))],[(3,[.keepF 26,.keep 1,.rowIn 5 2600100,.keep 9,.keep 10,.slot 11 (.one (.int .i64)),.row 2600100 48 2 true])],Tryz.func26,rfl,(by kernel_rfl),rfl,(by kernel_rfl),(by kernel_rfl)⟩⟩
@[irreducible] noncomputable def b36:Cmd:=((Tryz.f36.body).bind (trC Tryz.prog [50,1000021] 36 [] [(4,[.keepF 36,.keep 2,.keep 3,.keep 47,.slot 48 (.one (.int .i64)),.keepO 3600000,.keepO 3600001])])).getD .skip
noncomputable def c36:FnC:=⟨36,63,[(.tmp 4)],b36,false,[(.agg [(.slo 1),(.slo 1),(.slo 1),(.int .i64),(.int .i64)]),(.agg [(.slo 1),(.slo 1),(.slo 1),(.int .i64),(.int .i64)])],.val (.one .bool),none,false,[]⟩
theorem is36:IsFn Tryz.prog 36 c36:=⟨⟨_,_,[50,1000021],[],[(4,[.keepF 36,.keep 2,.keep 3,.keep 47,.slot 48 (.one (.int .i64)),.keepO 3600000,.keepO 3600001])],Tryz.func36,rfl,(by kernel_rfl),rfl,(by kernel_rfl),(by kernel_rfl)⟩⟩
@[irreducible] noncomputable def b47:Cmd:=((Tryz.f47.body).bind (trC Tryz.prog [50,1000021] 47 [] [])).getD .skip
noncomputable def c47:FnC:=⟨47,11,[(.cell 2 (some 5))],b47,false,[(.one (.int .i64))],.val (.agg [(.slo 1),(.slo 1),(.slo 1),(.int .i64),(.int .i64)]),none,false,[]⟩
theorem is47:IsFn Tryz.prog 47 c47:=⟨⟨_,_,[50,1000021],[],[],Tryz.func47,rfl,(by kernel_rfl),rfl,(by kernel_rfl),(by kernel_rfl)⟩⟩
@[irreducible] noncomputable def b56:Cmd:=((Tryz.f56.body).bind (trC Tryz.prog [50,1000021] 56 [] [])).getD .skip
noncomputable def c56:FnC:=⟨56,30,[(.tmp 4)],b56,false,[(.agg [(.slo 1),(.slo 1)]),(.one (.int .i64))],.val (.one .bool),none,false,[]⟩
theorem is56:IsFn Tryz.prog 56 c56:=⟨⟨_,_,[50,1000021],[],[],Tryz.func56,rfl,(by kernel_rfl),rfl,(by kernel_rfl),(by kernel_rfl)⟩⟩
@[irreducible] noncomputable def b61:Cmd:=((Tryz.f61.body).bind (trC Tryz.prog [50,1000021] 61 [] [])).getD .skip
noncomputable def c61:FnC:=⟨61,17,[(.tmp 4)],b61,false,[(.agg [(.slo 1),(.slo 1)]),(.agg [(.slo 1),(.slo 1)])],.val (.one .bool),none,false,[]⟩
theorem is61:IsFn Tryz.prog 61 c61:=⟨⟨_,_,[50,1000021],[],[],Tryz.func61,rfl,(by kernel_rfl),rfl,(by kernel_rfl),(by kernel_rfl)⟩⟩
@[irreducible] noncomputable def b89:Cmd:=((Tryz.f89.body).bind (trC Tryz.prog [50,1000021] 89 [] [(4,[.keepF 89,.keep 0,.keep 1,.keep 12,.slot 13 (.one (.int .i64))])])).getD .skip
noncomputable def c89:FnC:=⟨89,26,[(.tmp 4)],b89,false,[(.one (.slo 1)),(.one (.slo 1))],.val (.one .bool),none,false,[]⟩
theorem is89:IsFn Tryz.prog 89 c89:=⟨⟨_,_,[50,1000021],[],[(4,[.keepF 89,.keep 0,.keep 1,.keep 12,.slot 13 (.one (.int .i64))])],Tryz.func89,rfl,(by kernel_rfl),rfl,(by kernel_rfl),(by kernel_rfl)⟩⟩
@[irreducible] noncomputable def b3:Cmd:=((Tryz.f3.body).bind (trC Tryz.prog [50,1000021] 3 [] [])).getD .skip
noncomputable def c3:FnC:=⟨3,175,[(.tmp 4)],b3,false,[(.agg [(.slo 1),(.slo 1),(.slo 1),(.int .i64),(.int .i64)]),(.one .str)],.val (.one .bool),none,false,[]⟩
theorem is3:IsFn Tryz.prog 3 c3:=⟨⟨_,_,[50,1000021],[],[],Tryz.func3,rfl,(by kernel_rfl),rfl,(by kernel_rfl),(by kernel_rfl)⟩⟩
noncomputable def own4:List (Nat×Fun):=[(15,.code c15),(16,.code c16),(19,.code c19),(20,.code c20),(23,.code c23),(24,.code c24),(26,.code c26),(36,.code c36),(47,.code c47),(56,.code c56),(61,.code c61),(89,.code c89),(3,.code c3)]
noncomputable def funs4:List (Nat×Fun):=own4++funs3
noncomputable def Fs4:Nat→Option Fun:=table funs4
set_option maxRecDepth 100000 in
theorem company4:Company Tryz.prog Fs4:=
 .cons is15 <| .cons is16 <| .cons is19 <| .cons is20 <| .cons is23 <| .cons is24 <| .cons is26 <| .cons is36 <| .cons is47 <| .cons is56 <| .cons is61 <| .cons is89 <| .cons is3 <| company3
theorem up4:FsLe Fs3 Fs4:=table_up (by kernel_rfl)
theorem fs15:Fs4 15=some (.code c15):=rfl
theorem fs16:Fs4 16=some (.code c16):=rfl
theorem fs19:Fs4 19=some (.code c19):=rfl
theorem fs20:Fs4 20=some (.code c20):=rfl
theorem fs23:Fs4 23=some (.code c23):=rfl
theorem fs24:Fs4 24=some (.code c24):=rfl
theorem fs26:Fs4 26=some (.code c26):=rfl
theorem fs36:Fs4 36=some (.code c36):=rfl
theorem fs47:Fs4 47=some (.code c47):=rfl
theorem fs56:Fs4 56=some (.code c56):=rfl
theorem fs61:Fs4 61=some (.code c61):=rfl
theorem fs89:Fs4 89=some (.code c89):=rfl
theorem fs3:Fs4 3=some (.code c3):=rfl
end Go.Proofs.YtclgengkohbjjaaGreatDoor.M
namespace Go.Proofs.YtclgengkohbjjaaGreatDoor.M
set_option linter.unusedVariables false
set_option linter.unusedSimpArgs false
open Go Go.Mir
set_option linter.unusedVariables false
def V15 (a0_0:LD) (a0_1:LD) (a0_2:LD) (a0_3:Int) (a0_4:Int) (R:Mir.AV→Prop):Prop:=
 (sel (decide ((a0_1.length:Int)≤300)) (R (.n (.bool (decide ((a0_2.length:Int)≤300))))) (R (.n (.bool false))))
theorem vc15 (a0_0:LD) (a0_1:LD) (a0_2:LD) (a0_3:Int) (a0_4:Int) (R:Mir.AV→Prop):Vc Fs4 c15.body (argsQ c15 [(.agg [(.o (.sl 1 a0_0)),(.o (.sl 1 a0_1)),(.o (.sl 1 a0_2)),(.n (.int .i64 a0_3)),(.n (.int .i64 a0_4))])]) [] (endQ c15 R)=V15 a0_0 a0_1 a0_2 a0_3 a0_4 R:=by kernel_rfl
def V16  (R:Mir.AV→Prop):Prop:=
 (∃x0:LD,(∃x1:LD,(∃x2:LD,(∃x3:Int,(∃x4:Int,((Runs Fs4 47 [(aI 24)] [] (qH_ x0 x1 x2 x3 x4) [])∧(∃x5:LD,(∃x6:LD,(∃x7:LD,(∃x8:Int,(∃x9:Int,(∃x10:Int,((Runs Fs4 17 [(qH_ x0 x1 x2 x3 x4),(aS (ByteArray.mk (List.toArray [97])))] [] (.tup [(qH_ x5 x6 x7 x8 x9),(aI x10)]) [])∧(R (.n (.bool (x10==80)))))))))))))))))
def V16e  (R:Mir.AV→Prop):=PLift.up (by delta V16 qE_ qH_;exact rfl:V16 R=_)
theorem vc16  (R:Mir.AV→Prop):Vc Fs4 c16.body (argsQ c16 []) [] (endQ c16 R)=V16  R:=by kernel_rfl
def V19 (a0:ByteArray) (R:Mir.AV→Prop):Prop:=
 (qb7_ a0 R)
def V19e (a0:ByteArray) (R:Mir.AV→Prop):=PLift.up (by delta V19 qb7_;exact rfl:V19 a0 R=_)
theorem vc19 (a0:ByteArray) (R:Mir.AV→Prop):Vc Fs4 c19.body (argsQ c19 [(.n (.str a0))]) [] (endQ c19 R)=V19 a0 R:=by kernel_rfl
def V20 (a0_0:LD) (a0_1:LD) (a0_2:LD) (a0_3:Int) (a0_4:Int) (R:Mir.AV→Prop):Prop:=
 (∃x0:Bool,((Runs Fs4 36 [(qH_ a0_0 a0_1 a0_2 a0_3 a0_4),(.agg [(aL []),(aL []),(aL []),(aI 0),(aI 0)])] [] (aB x0) [])∧(R (.n (.bool x0)))))
def V20e (a0_0:LD) (a0_1:LD) (a0_2:LD) (a0_3:Int) (a0_4:Int) (R:Mir.AV→Prop):=PLift.up (by delta V20 qE_ qH_;exact rfl:V20 a0_0 a0_1 a0_2 a0_3 a0_4 R=_)
theorem vc20 (a0_0:LD) (a0_1:LD) (a0_2:LD) (a0_3:Int) (a0_4:Int) (R:Mir.AV→Prop):Vc Fs4 c20.body (argsQ c20 [(.agg [(.o (.sl 1 a0_0)),(.o (.sl 1 a0_1)),(.o (.sl 1 a0_2)),(.n (.int .i64 a0_3)),(.n (.int .i64 a0_4))])]) [] (endQ c20 R)=V20 a0_0 a0_1 a0_2 a0_3 a0_4 R:=by kernel_rfl
abbrev qcy_ (p0 p1:LD):=
 (rh [(hB 2300000 [(aL p0),(aL p1)])])
def V23 (a0_0:LD) (a0_1:LD) (R:Mir.AV→Prop):Prop:=
 (∃x0:Bool,((Runs Fs4 54 (qC_ a0_0 a0_1) [] (aB x0) [])∧(sel (Bool.not x0) (R (.n (.int .i64 0))) (∃x1:(Int→(Int→Prop)),(∃x2:(Int→(Int→Nat)),(((qcy_ a0_0 a0_1)∧(x1 0 0))∧(∀x3:Int,(∀x4:Int,((x1 x3 x4)→(∀x5:(Nat→Mir.AV),(sel (qF_ x4 a0_1) (∃x6:Bool,((Runs Fs4 56 [(.agg [(aL a0_0),(aL a0_1)]),(aI x4)] [] (aB x6) [])∧(sel x6 ((rq (.ptr 2300000 0))∧(qG_ a0_1)∧(qcy_ a0_0 a0_1)∧(x1 (IntKind.wrap .i64 (x3+1)) (IntKind.wrap .i64 (x4+1)))∧(((x2 (IntKind.wrap .i64 (x3+1)) (IntKind.wrap .i64 (x4+1))):Nat)<(x2 x3 x4))) ((rq (.ptr 2300000 0))∧(qG_ a0_1)∧(qcy_ a0_0 a0_1)∧(x1 x3 (IntKind.wrap .i64 (x4+1)))∧(((x2 x3 (IntKind.wrap .i64 (x4+1))):Nat)<(x2 x3 x4)))))) (R (.n (.int .i64 x3))))))))))))))
def V23e (a0_0:LD) (a0_1:LD) (R:Mir.AV→Prop):=PLift.up (by delta V23 qcy_ qC_ qF_ qG_;exact rfl:V23 a0_0 a0_1 R=_)
theorem vc23 (a0_0:LD) (a0_1:LD) (R:Mir.AV→Prop):Vc Fs4 c23.body (argsQ c23 [(.agg [(.o (.sl 1 a0_0)),(.o (.sl 1 a0_1))])]) [] (endQ c23 R)=V23 a0_0 a0_1 R:=by kernel_rfl
abbrev qcB_ (p0 p1 p2 p3 p4:LD) (p5 p6:Int) (p7 p8 p9:LD) (p10 p11:Int) (p12:(Int→Prop)) (p13:Int) (p14:(Int→Nat)):=
 ((rq (aL p0))∧(rq (aL p1))∧(rq (.ptr 2400000 0))∧(rq (.ptr 2400001 0))∧(qG_ p2)∧(rh [(hB 2400000 (qE_ p3 p2 p4 p5 p6)),(hB 2400001 (qE_ p7 p8 p9 p10 p11))])∧(p12 (IntKind.wrap .i64 (p13+1)))∧(((p14 (IntKind.wrap .i64 (p13+1))):Nat)<(p14 p13)))
abbrev qcz_ (p0:Int) (p1 p2 p3:LD) (p4:Mir.AV→Prop) (p5 p6 p7:LD) (p8 p9:Int) (p10 p11:LD) (p12 p13:Int) (p14:(Int→Prop)) (p15:(Int→Nat)):=
 ((rn 1)∧((0:Int)≤p0)∧(∃x14:Mir.D,((qp_ p1 p0 x14)∧(∃x15:Bool,((qO_ x14 x15)∧(rn 1)∧((0:Int)≤p0)∧(∃x16:Mir.D,((qp_ p2 p0 x16)∧(∃x17:Bool,((qO_ x16 x17)∧(sel x17 (∃x18:Bool,((Runs Fs4 27 [(aL p3),(aI p0)] [] (aB x18) [])∧(sel (Bool.not x18) (sel (Bool.not (x15==true)) (p4 (.n (.bool false))) (qcB_ p3 p5 p2 p6 p7 p8 p9 p10 p1 p11 p12 p13 p14 p0 p15)) (∃x19:Bool,((Runs Fs4 27 [(aL p5),(aI p0)] [] (aB x19) [])∧(sel (Bool.not (x15==x19)) (p4 (.n (.bool false))) (qcB_ p3 p5 p2 p6 p7 p8 p9 p10 p1 p11 p12 p13 p14 p0 p15))))))) (∃x20:Bool,((Runs Fs4 27 [(aL p5),(aI p0)] [] (aB x20) [])∧(sel (Bool.not (x15==x20)) (p4 (.n (.bool false))) (qcB_ p3 p5 p2 p6 p7 p8 p9 p10 p1 p11 p12 p13 p14 p0 p15))))))))))))))
abbrev qcA_ (p0 p1 p2 p3 p4:LD) (p5 p6:Int) (p7 p8 p9:LD) (p10 p11:Int) (p12:(Int→Prop)) (p13:Int) (p14:(Int→Nat)):=
 ((rq (aL p0))∧(rq (.ptr 2400000 0))∧(rq (.ptr 2400001 0))∧(rq (aL p1))∧(rq (aI (p1.length:Int)))∧(rh [(hB 2400000 (qE_ p2 p3 p4 p5 p6)),(hB 2400001 (qE_ p7 p8 p9 p10 p11))])∧(p12 (IntKind.wrap .i64 (p13+1)))∧(((p14 (IntKind.wrap .i64 (p13+1))):Nat)<(p14 p13)))
def V24 (a0_0:LD) (a0_1:LD) (a0_2:LD) (a0_3:Int) (a0_4:Int) (a1_0:LD) (a1_1:LD) (a1_2:LD) (a1_3:Int) (a1_4:Int) (a2:LD) (a3:LD) (R:Mir.AV→Prop):Prop:=
 (sel (a1_4 != a0_4) (R (.n (.bool false))) (sel (qD_ a1_2 a0_2) (R (.n (.bool false))) (sel (qD_ a1_1 a0_1) (R (.n (.bool false))) (sel (qD_ a1_0 a0_0) (R (.n (.bool false))) (∃x0:(Int→Prop),(∃x1:(Int→Nat),(((rh [(hB 2400000 (qE_ a0_0 a0_1 a0_2 a0_3 a0_4)),(hB 2400001 (qE_ a1_0 a1_1 a1_2 a1_3 a1_4))])∧(x0 0))∧(∀x2:Int,((x0 x2)→(∀x3:(Nat→Mir.AV),(sel (qF_ x2 a0_1) ((rn 1)∧((0:Int)≤x2)∧(∃x4:Mir.D,((qp_ a1_0 x2 x4)∧(∃x5:Bool,((qO_ x4 x5)∧(rn 1)∧((0:Int)≤x2)∧(∃x6:Mir.D,((qp_ a0_0 x2 x6)∧(∃x7:Bool,((qO_ x6 x7)∧(sel (Bool.not (x5==x7)) (R (.n (.bool false))) ((rn 1)∧((0:Int)≤x2)∧(∃x8:Mir.D,((qp_ a0_0 x2 x8)∧(∃x9:Bool,((qO_ x8 x9)∧(sel x9 ((rn 1)∧((0:Int)≤x2)∧(∃x10:Mir.D,((qp_ a1_2 x2 x10)∧(∃x11:ByteArray,((qr_ x10 x11)∧(rn 1)∧((0:Int)≤x2)∧(∃x12:Mir.D,((qp_ a0_2 x2 x12)∧(∃x13:ByteArray,((qr_ x12 x13)∧(sel (Bool.not (qu_ x11 x13)) (R (.n (.bool false))) (qcz_ x2 a1_1 a0_1 a2 R a3 a0_0 a0_2 a0_3 a0_4 a1_0 a1_2 a1_3 a1_4 x0 x1))))))))))) (qcz_ x2 a1_1 a0_1 a2 R a3 a0_0 a0_2 a0_3 a0_4 a1_0 a1_2 a1_3 a1_4 x0 x1))))))))))))))))) (∃x28:(Int→Prop),(∃x29:(Int→Nat),(((rh [(hB 2400000 (qE_ a0_0 a0_1 a0_2 a0_3 a0_4)),(hB 2400001 (qE_ a1_0 a1_1 a1_2 a1_3 a1_4))])∧(x28 0))∧(∀x30:Int,((x28 x30)→(∀x31:(Nat→Mir.AV),(sel (qF_ x30 a3) ((rn 1)∧((0:Int)≤x30)∧(∃x32:Mir.D,((qp_ a3 x30 x32)∧(∃x33:Int,(((D.cells x32)[0]?=some (Mir.D.int .i64 x33))∧(rn 1)∧((0:Int)≤x33)∧(∃x34:Mir.D,((qp_ a1_2 x33 x34)∧(∃x35:ByteArray,((qr_ x34 x35)∧(∃x36:Int,(∃x37:Int,(∃x38:ByteArray,(∃x39:Int,((Runs Fs4 57 [(aS x35)] [] (.tup [(.agg [(aI x36),(aI x37),(aS x38)]),(aI x39)]) [])∧(∃x40:Bool,((Runs Fs4 27 [(aL a2),(aI x33)] [] (aB x40) [])∧(sel x40 ((rn 1)∧((0:Int)≤x33)∧(∃x41:Mir.D,((qp_ a1_2 x33 x41)∧(∃x42:ByteArray,((qr_ x41 x42)∧(rn 1)∧((0:Int)≤x33)∧(∃x43:Mir.D,((qp_ a0_2 x33 x43)∧(∃x44:ByteArray,((qr_ x43 x44)∧(sel (Bool.not (qu_ x42 x44)) (sel (x39 != 0) (R (.n (.bool false))) (sel (x37 != a0_4) (R (.n (.bool false))) (qcA_ a2 a3 a0_0 a0_1 a0_2 a0_3 a0_4 a1_0 a1_1 a1_2 a1_3 a1_4 x28 x30 x29))) (qcA_ a2 a3 a0_0 a0_1 a0_2 a0_3 a0_4 a1_0 a1_1 a1_2 a1_3 a1_4 x28 x30 x29))))))))))) (sel (x39 != 0) (R (.n (.bool false))) (sel (x37 != a0_4) (R (.n (.bool false))) (qcA_ a2 a3 a0_0 a0_1 a0_2 a0_3 a0_4 a1_0 a1_1 a1_2 a1_3 a1_4 x28 x30 x29)))))))))))))))))))) (R (.n (.bool true)))))))))))))))))))))
def V24e (a0_0:LD) (a0_1:LD) (a0_2:LD) (a0_3:Int) (a0_4:Int) (a1_0:LD) (a1_1:LD) (a1_2:LD) (a1_3:Int) (a1_4:Int) (a2:LD) (a3:LD) (R:Mir.AV→Prop):=PLift.up (by delta V24 qD_ qcz_ qr_ qO_ qcB_ qE_ qp_ qG_ qcA_ qu_ qF_;exact rfl:V24 a0_0 a0_1 a0_2 a0_3 a0_4 a1_0 a1_1 a1_2 a1_3 a1_4 a2 a3 R=_)
theorem vc24 (a0_0:LD) (a0_1:LD) (a0_2:LD) (a0_3:Int) (a0_4:Int) (a1_0:LD) (a1_1:LD) (a1_2:LD) (a1_3:Int) (a1_4:Int) (a2:LD) (a3:LD) (R:Mir.AV→Prop):Vc Fs4 c24.body (argsQ c24 [(.agg [(.o (.sl 1 a0_0)),(.o (.sl 1 a0_1)),(.o (.sl 1 a0_2)),(.n (.int .i64 a0_3)),(.n (.int .i64 a0_4))]),(.agg [(.o (.sl 1 a1_0)),(.o (.sl 1 a1_1)),(.o (.sl 1 a1_2)),(.n (.int .i64 a1_3)),(.n (.int .i64 a1_4))]),(.o (.sl 1 a2)),(.o (.sl 1 a3))]) [] (endQ c24 R)=V24 a0_0 a0_1 a0_2 a0_3 a0_4 a1_0 a1_1 a1_2 a1_3 a1_4 a2 a3 R:=by kernel_rfl
def V26 (a0:LD) (a1:ByteArray) (R:Mir.AV→Prop):Prop:=
 (∃x0:qb5_,(∃x1:qb6_,(((rh [(2600100,(.row false true 0 48 2 []))])∧(x0 0 0 (0,[])))∧(∀x2:Nat,(∀x3:Int,(∀x4:(Nat×LD),((x0 x2 x3 x4)→(∀x5:(Nat→Mir.AV),(sel (qF_ x3 a0) ((rn 2)∧((0:Int)≤x3)∧(∃x6:Mir.D,((qp_ a0 x3 x6)∧(∃x7:ByteArray,(∃x8:ByteArray,((qbB_ x6 x7 x8)∧(qbC_ x6)∧(sel (Bool.not (qu_ x7 a1)) ((rn 0)∧((rn 2)∨(@Eq LD [(qbK_ x7 x8)] []))∧(((qc_ x4 x2)∧(rn 48))∧(rn 2))∧(qbL_ x4 x7 x8)∧(rq (aS a1))∧(rq (.o (Mir.D.sl 2 a0)))∧(rq (aI (a0.length:Int)))∧(rh [(2600100,(.row false true (x2+1) 48 2 (qbM_ x4 x7 x8)))])∧(x0 (x2+1) (IntKind.wrap .i64 (x3+1)) ((x2+1),(qbM_ x4 x7 x8)))∧(((x1 (x2+1) (IntKind.wrap .i64 (x3+1)) ((x2+1),(qbM_ x4 x7 x8))):Nat)<(x1 x2 x3 x4))) ((rq (aS a1))∧(rq (.o (Mir.D.sl 2 a0)))∧(rq (aI (a0.length:Int)))∧(rh [(2600100,(.row false true (Prod.fst x4) 48 2 (Prod.snd x4)))])∧(x0 x2 (IntKind.wrap .i64 (x3+1)) ((Prod.fst x4),(Prod.snd x4)))∧(((x1 x2 (IntKind.wrap .i64 (x3+1)) ((Prod.fst x4),(Prod.snd x4))):Nat)<(x1 x2 x3 x4)))))))))) (((Prod.fst x4)=x2)∧(R (.o (Mir.D.sl 2 (Prod.snd x4))))))))))))))
def V26e (a0:LD) (a1:ByteArray) (R:Mir.AV→Prop):=PLift.up (by delta V26 qbK_ qbB_ qbL_ qb6_ qc_ q6_ qbM_ qp_ qbC_ qb5_ qu_ qF_;exact rfl:V26 a0 a1 R=_)
theorem vc26 (a0:LD) (a1:ByteArray) (R:Mir.AV→Prop):Vc Fs4 c26.body (argsQ c26 [(.o (.sl 2 a0)),(.n (.str a1))]) [] (endQ c26 R)=V26 a0 a1 R:=by kernel_rfl
def V36 (a0_0:LD) (a0_1:LD) (a0_2:LD) (a0_3:Int) (a0_4:Int) (a1_0:LD) (a1_1:LD) (a1_2:LD) (a1_3:Int) (a1_4:Int) (R:Mir.AV→Prop):Prop:=
 (sel (a0_3 != a1_3) (R (.n (.bool false))) (sel (a0_4 != a1_4) (R (.n (.bool false))) (sel (qD_ a0_2 a1_2) (R (.n (.bool false))) (∃x0:Bool,((Runs Fs4 61 [(.agg [(aL a0_0),(aL a0_1)]),(.agg [(aL a1_0),(aL a1_1)])] [] (aB x0) [])∧(sel (Bool.not x0) (R (.n (.bool false))) (∃x1:(Int→Prop),(∃x2:(Int→Nat),(((rh [(hB 3600000 (qE_ a0_0 a0_1 a0_2 a0_3 a0_4)),(hB 3600001 (qE_ a1_0 a1_1 a1_2 a1_3 a1_4))])∧(x1 0))∧(∀x3:Int,((x1 x3)→(∀x4:(Nat→Mir.AV),(sel (qF_ x3 a0_2) ((rn 1)∧((0:Int)≤x3)∧(∃x5:Mir.D,((qp_ a0_2 x3 x5)∧(∃x6:ByteArray,((qr_ x5 x6)∧(rn 1)∧((0:Int)≤x3)∧(∃x7:Mir.D,((qp_ a1_2 x3 x7)∧(∃x8:ByteArray,((qr_ x7 x8)∧(sel (Bool.not (qu_ x6 x8)) (R (.n (.bool false))) ((rq (.ptr 3600000 0))∧(rq (.ptr 3600001 0))∧(qG_ a0_2)∧(rh [(hB 3600000 (qE_ a0_0 a0_1 a0_2 a0_3 a0_4)),(hB 3600001 (qE_ a1_0 a1_1 a1_2 a1_3 a1_4))])∧(x1 (IntKind.wrap .i64 (x3+1)))∧(((x2 (IntKind.wrap .i64 (x3+1))):Nat)<(x2 x3))))))))))))) (R (.n (.bool true))))))))))))))))
def V36e (a0_0:LD) (a0_1:LD) (a0_2:LD) (a0_3:Int) (a0_4:Int) (a1_0:LD) (a1_1:LD) (a1_2:LD) (a1_3:Int) (a1_4:Int) (R:Mir.AV→Prop):=PLift.up (by delta V36 qD_ qr_ qp_ qE_ qG_ qu_ qF_;exact rfl:V36 a0_0 a0_1 a0_2 a0_3 a0_4 a1_0 a1_1 a1_2 a1_3 a1_4 R=_)
theorem vc36 (a0_0:LD) (a0_1:LD) (a0_2:LD) (a0_3:Int) (a0_4:Int) (a1_0:LD) (a1_1:LD) (a1_2:LD) (a1_3:Int) (a1_4:Int) (R:Mir.AV→Prop):Vc Fs4 c36.body (argsQ c36 [(.agg [(.o (.sl 1 a0_0)),(.o (.sl 1 a0_1)),(.o (.sl 1 a0_2)),(.n (.int .i64 a0_3)),(.n (.int .i64 a0_4))]),(.agg [(.o (.sl 1 a1_0)),(.o (.sl 1 a1_1)),(.o (.sl 1 a1_2)),(.n (.int .i64 a1_3)),(.n (.int .i64 a1_4))])]) [] (endQ c36 R)=V36 a0_0 a0_1 a0_2 a0_3 a0_4 a1_0 a1_1 a1_2 a1_3 a1_4 R:=by kernel_rfl
abbrev qcC_ (p0:Int):=
 (mmI false (mmI true p0 24) 200)
def V47 (a0:Int) (R:Mir.AV→Prop):Prop:=
 (∃x0:LD,(∃x1:LD,((Runs Fs4 60 [(aI (qcC_ a0))] [] (.agg [(aL x0),(aL x1)]) [])∧((0:Int)≤(qcC_ a0))∧((((Int.toNat (qcC_ a0))*16):Nat)≤140737488355328)∧(0=0)∧(R (.agg [(.o (.sl 1 x0)),(.o (.sl 1 x1)),(.o (.sl 1 (List.replicate (Int.toNat (qcC_ a0)) (Mir.D.str qf_)))),(.n (.int .i64 0)),(.n (.int .i64 1))])))))
def V47e (a0:Int) (R:Mir.AV→Prop):=PLift.up (by delta V47 qcC_ qf_;exact rfl:V47 a0 R=_)
theorem vc47 (a0:Int) (R:Mir.AV→Prop):Vc Fs4 c47.body (argsQ c47 [(.n (.int .i64 a0))]) [] (endQ c47 R)=V47 a0 R:=by kernel_rfl
def V56 (a0_0:LD) (a0_1:LD) (a1:Int) (R:Mir.AV→Prop):Prop:=
 (sel (decide (a1≥0)) (sel (qF_ a1 a0_1) ((rn 1)∧((0:Int)≤a1)∧(∃x0:Mir.D,((qp_ a0_1 a1 x0)∧(∃x1:Bool,((qO_ x0 x1)∧(sel (Bool.not x1) ((rn 1)∧((0:Int)≤a1)∧(∃x2:Mir.D,((qp_ a0_0 a1 x2)∧(∃x3:Bool,((qO_ x2 x3)∧(R (.n (.bool (Bool.not x3))))))))) (R (.n (.bool false))))))))) (R (.n (.bool false)))) (R (.n (.bool false))))
def V56e (a0_0:LD) (a0_1:LD) (a1:Int) (R:Mir.AV→Prop):=PLift.up (by delta V56 qp_ qF_ qO_;exact rfl:V56 a0_0 a0_1 a1 R=_)
theorem vc56 (a0_0:LD) (a0_1:LD) (a1:Int) (R:Mir.AV→Prop):Vc Fs4 c56.body (argsQ c56 [(.agg [(.o (.sl 1 a0_0)),(.o (.sl 1 a0_1))]),(.n (.int .i64 a1))]) [] (endQ c56 R)=V56 a0_0 a0_1 a1 R:=by kernel_rfl
def V61 (a0_0:LD) (a0_1:LD) (a1_0:LD) (a1_1:LD) (R:Mir.AV→Prop):Prop:=
 (∃x0:Bool,((Runs Fs4 89 [(aL a0_0),(aL a1_0)] [] (aB x0) [])∧(sel x0 (∃x1:Bool,((Runs Fs4 89 [(aL a0_1),(aL a1_1)] [] (aB x1) [])∧(R (.n (.bool x1))))) (R (.n (.bool false))))))
theorem vc61 (a0_0:LD) (a0_1:LD) (a1_0:LD) (a1_1:LD) (R:Mir.AV→Prop):Vc Fs4 c61.body (argsQ c61 [(.agg [(.o (.sl 1 a0_0)),(.o (.sl 1 a0_1))]),(.agg [(.o (.sl 1 a1_0)),(.o (.sl 1 a1_1))])]) [] (endQ c61 R)=V61 a0_0 a0_1 a1_0 a1_1 R:=by kernel_rfl
def V89 (a0:LD) (a1:LD) (R:Mir.AV→Prop):Prop:=
 (sel (qD_ a0 a1) (R (.n (.bool false))) (∃x0:(Int→Prop),(∃x1:(Int→Nat),(((rh [])∧(x0 0))∧(∀x2:Int,((x0 x2)→(∀x3:(Nat→Mir.AV),(sel (qF_ x2 a0) ((rn 1)∧((0:Int)≤x2)∧(∃x4:Mir.D,((qp_ a0 x2 x4)∧(∃x5:Bool,((qO_ x4 x5)∧(rn 1)∧((0:Int)≤x2)∧(∃x6:Mir.D,((qp_ a1 x2 x6)∧(∃x7:Bool,((qO_ x6 x7)∧(sel (Bool.not (x5==x7)) (R (.n (.bool false))) ((rq (aL a0))∧(rq (aL a1))∧(rq (aI (a0.length:Int)))∧(rh [])∧(x0 (IntKind.wrap .i64 (x2+1)))∧(((x1 (IntKind.wrap .i64 (x2+1))):Nat)<(x1 x2))))))))))))) (R (.n (.bool true)))))))))))
def V89e (a0:LD) (a1:LD) (R:Mir.AV→Prop):=PLift.up (by delta V89 qD_ qp_ qF_ qO_;exact rfl:V89 a0 a1 R=_)
theorem vc89 (a0:LD) (a1:LD) (R:Mir.AV→Prop):Vc Fs4 c89.body (argsQ c89 [(.o (.sl 1 a0)),(.o (.sl 1 a1))]) [] (endQ c89 R)=V89 a0 a1 R:=by kernel_rfl
end Go.Proofs.YtclgengkohbjjaaGreatDoor.M
