import Derived.Test.YtegndijbpiccgaaGreatDoorR5EdZ
namespace Go.Proofs.YtegndijbpiccgaaGreatDoor.M
set_option linter.unusedVariables false
set_option linter.unusedSimpArgs false
open Go Go.Mir
set_option maxRecDepth 100000 in
set_option maxHeartbeats 11800000 in
theorem ADh {w0:Wd}(key:bA)(e:Ed)(v:Nat)(hI:Inv w0 e)(n:Nd)(hn:Shp n)(hnl:n.leaf=false)(hnk:1<=n.keys.length)(i:Nat)(hi:i<=n.keys.length)(kid:Nd)(hk:Shp kid)(hk4:kid.keys.length<4)(d:Int)(hd:1<=d/\d<=100):
  ∃fz a b K C,Runs Az 183 [.ptr 11600504 0,.agg [aB n.leaf,.row 15251502 0,aL (AG n.vals),.row 15251505 0],aI i,CU kid,aI d] (hF key e v false 0 0 (AG n.keys) (il n.kids)) (CU (EW e n i kid d).1) (hF key (EW e n i kid d).2 v fz a b K C):=by
 have main:∃r H',Runs Az 183 [.ptr 11600504 0,.agg [.n (.bool n.leaf),.row 15251502 0,.o (.sl 1 (AG n.vals)),.row 15251505 0],.n (.int .i64 i),CU kid,.n (.int .i64 d)] (hF key e v false 0 0 (AG n.keys) (il n.kids)) r H'/\(r=CU (EW e n i kid d).1/\∃fz a b K C,H'=hF key (EW e n i kid d).2 v fz a b K C):=by
  refine DH (R:=λr H'=>r=CU (EW e n i kid d).1/\∃fz a b K C,H'=hF key (EW e n i kid d).2 v fz a b K C) AAn rfl (by kernel_rfl) ?_;obtain⟨n1,n2⟩:=hn.inner hnl;obtain⟨n3,_,n4⟩:=hn.lens;obtain⟨m1,m2,m3⟩:=hk.lens;have hlk:i-1<n.keys.length:=by omega
  have eL:Ck true (w6 ((i:Int)-1)) 0=((i-1:Nat):Int):=by rw[Ad _ (by omega)];unfold Ck;simp only[if_true];split<;>omega
  rw[CU];show Vc Az c183.body _ [(11600504,.box [.ptr 14800202 0,.n (.str key)]),(14800202,.box [.o (.sl 1 (Bg e.w.base)),.o (.sl 1 (Bg e.w.now)),.row 14850102 v,.n (.int .i64 e.w.root),.n (.int .i64 e.w.gen),.n (.int .i64 e.bad)]),(14850102,.row false false v 9 1 (AG e.w.pages)),(15251502,.row false false 0 9 1 (AG n.keys)),(15251505,.row false false 0 3 1 (il n.kids))] (AP c183 [(11600504,.box [.ptr 14800202 0,.n (.str key)]),(14800202,.box [.o (.sl 1 (Bg e.w.base)),.o (.sl 1 (Bg e.w.now)),.row 14850102 v,.n (.int .i64 e.w.root),.n (.int .i64 e.w.gen),.n (.int .i64 e.bad)]),(14850102,.row false false v 9 1 (AG e.w.pages)),(15251502,.row false false 0 9 1 (AG n.keys)),(15251505,.row false false 0 3 1 (il n.kids))] _);rw[pY,(iV _ _ _ _ _ _ _ _ _ _ _ _ _ _ _ _ _ _ _ _ _).down,eL];have e1:w6 ((i:Int)+1)=((i+1:Nat):Int):=by rw[Ad _ (by omega)];omega
  have e3:(d+1==1)=false:=by simp;omega
  rw[e1,Ad (d+1) (by omega)];unfold EW;dsimp only;refine Aa (λhli=>?_) (λhli=>?_)
  ·have hli':i-1=i:=by have:=eq_of_beq hli;omega
   have hic:i+1<n.kids.length:=by omega
   rw[if_pos hli',if_pos hli'];rw[gI hic,Option.getD_some];have c1:=aV e v hI.right n.kids[i+1] (d+1);obtain⟨l1,l2⟩:=DT (b:=n.kids[i+1]) (d:=d+1) hI;refine⟨⟨rfl,rfl⟩,by omega,by rw[Aw];omega,⟨rfl,rfl⟩,_,Eb hic,_,rfl,_,_,_,_,_,_,_,_,_,_,_,_,c1,?_⟩;have c9:=ABr key (AI e n.kids[i+1] (d+1)).2 v;refine Aa (λhb=>?_) (λhb=>?_)
   ·have hb:(AI e n.kids[i+1] (d+1)).2.bad≠0:=by simpa using hb
    rw[if_pos (.inl hb)];exact⟨_,_,_,_,_,_,_,_,_,c9,rfl,_,_,_,_,_,rfl⟩
   ·have hb:(AI e n.kids[i+1] (d+1)).2.bad=0:=by simpa using hb
    refine Aa (λhlf=>?_) (λhlf=>?_)
    ·have hlf:(AI e n.kids[i+1] (d+1)).1.leaf≠kid.leaf:=λh=>by rw[h]at hlf;simp at hlf
     rw[if_pos (.inr hlf)];exact⟨_,_,_,_,_,_,_,_,_,c9,rfl,_,_,_,_,_,rfl⟩
    ·have hlf:(AI e n.kids[i+1] (d+1)).1.leaf=kid.leaf:=by simpa using hlf
     rw[if_neg (λh=>h.elim (λh=>h hb) (λh=>h hlf))];obtain⟨l3,l4,l5,l6⟩:=l2 hb;rw[e3]at l5;have hok:=Cr l5;have sh:=R9 hok.1 hok.2.1;have h4:4<=(AI e n.kids[i+1] (d+1)).1.keys.length:=by rcases hok.2.2 with h|h;cases h;exact h
     obtain⟨d1,d2⟩:=Ev (b:=n.kids[i+1]) l1 hb (by rw[l4];exact l5);have c2:=cV (AI e n.kids[i+1] (d+1)).2 v l1.right n.kids[i+1];refine⟨⟨rfl,rfl⟩,by omega,by rw[Aw];omega,⟨rfl,rfl⟩,_,Eb hic,_,rfl,_,_,_,_,_,_,_,_,c2,?_⟩;generalize (AI e n.kids[i+1] (d+1)).1=nx at l5 hok sh h4 hlf |-;generalize B7 (AI e n.kids[i+1] (d+1)).2 n.kids[i+1]=e2 at d1 d2 |-;have sa:Shp kid:=hk;have sb:Shp nx:=sh;have fa:=sa.fits;have fb:=sb.fits;have hab:kid.leaf=nx.leaf:=hlf.symm;have hx:nx.keys.length<kid.keys.length\/2<=nx.keys.length:=by omega
     refine Aa (λ_=>?_) (λh=>by rw[hli]at h;cases h);refine⟨⟨rfl,rfl⟩,by omega,by rw[Am];omega,⟨rfl,rfl⟩,_,AZ hlk,_,rfl,?_⟩;have gj:=ABO kid n.keys[i-1] nx fa fb;have gk:((n.keys[i-1]?).getD empS)=n.keys[i-1]:=by rw[gI hlk];rfl
     have ge:=yW kid n.keys[i-1] nx sa sb hab hx;have fj:=L7 n.keys[i-1] sa sb;have even:¬(Au kid/\Au nx/\Au (Aq kid n.keys[i-1] nx)/\(Aq kid n.keys[i-1] nx).keys.length<=8) ->
         BZ e2 n (i-1) kid nx=(MX n (i-1) (Ag e2 (CC (Aq kid n.keys[i-1] nx) (AM kid nx))).1 (Gt (Aq kid n.keys[i-1] nx) (AM kid nx)) (Ag (Ag e2 (CC (Aq kid n.keys[i-1] nx) (AM kid nx))).2 (Dc (Aq kid n.keys[i-1] nx) (AM kid nx))).1,(Ag (Ag e2 (CC (Aq kid n.keys[i-1] nx) (AM kid nx))).2 (Dc (Aq kid n.keys[i-1] nx) (AM kid nx))).2):=λh=>by
       unfold BZ
       dsimp only
       rw[gk,if_neg h]
     have s1:=JQ e2 v (λ_=>d1.right) (CC (Aq kid n.keys[i-1] nx) (AM kid nx)) (IV fj _).1;have s2:=JQ (Ag e2 (CC (Aq kid n.keys[i-1] nx) (AM kid nx))).2 v (λ_=>(BE d1).1.right) (Dc (Aq kid n.keys[i-1] nx) (AM kid nx)) (IV fj _).2;have sj:=JQ e2 v (λ_=>d1.right) (Aq kid n.keys[i-1] nx) fj.1;rw[KZ]at ge;by_cases hj:Au kid/\Au nx/\kid.leaf=nx.leaf/\Au (Aq kid n.keys[i-1] nx)
     ·rw[I2,if_pos hj]at gj;refine⟨_,_,_,_,_,gj,Aa (λ_=>?_) (λh=>by simp at h)⟩;refine Ab (λh8=>?_) (λh8=>?_)
      ·have h8:(Aq kid n.keys[i-1] nx).keys.length<=8:=by rw[Am]at h8;omega
       have ej:BZ e2 n (i-1) kid nx=(PI n (i-1) (Ag e2 (Aq kid n.keys[i-1] nx)).1,(Ag e2 (Aq kid n.keys[i-1] nx)).2):=by unfold BZ;dsimp only;rw[gk,if_pos ⟨hj.1,hj.2.1,hj.2.2.2,h8⟩]
       rw[ej];generalize Ag e2 (Aq kid n.keys[i-1] nx)=q at sj |-;rw[show w6 (((i-1:Nat):Int)+1)=((i-1+1:Nat):Int) by rw[Ad _ (by omega)];omega,show w6 (((i-1:Nat):Int)+2)=((i-1+1+1:Nat):Int) by rw[Ad _ (by omega)];omega];refine⟨_,_,_,_,_,_,_,_,_,sj,⟨rfl,rfl⟩,by omega,by rw[Aw];omega,⟨⟨⟨rfl,rfl⟩,rfl⟩,rfl⟩,by rw[Aw];omega,_,S6 n.keys (i-1) hlk rfl,_,fW (n.kids.set (i-1) q.1) (i-1+1) (by rw[List.length_set];omega) (congrArg (λz=>some (Ob.row false false 0 3 1 z)) (D9 n.kids (i-1) q.1)),rfl,rfl,?_⟩;refine⟨?_,_,_,_,_,_,rfl⟩;rw[PI,CU,Tp (by omega)];rfl
      ·have h8:¬(Aq kid n.keys[i-1] nx).keys.length<=8:=by rw[Am]at h8;omega
       rw[even λh=>h8 h.2.2.2];generalize Ag e2 (CC (Aq kid n.keys[i-1] nx) (AM kid nx))=q at s1 s2 |-;generalize Ag q.2 (Dc (Aq kid n.keys[i-1] nx) (AM kid nx))=q2 at s2 |-;rw[show w6 (((i-1:Nat):Int)+1)=((i-1+1:Nat):Int) by rw[Ad _ (by omega)];omega];refine⟨⟨rfl,rfl⟩,by omega,by rw[Am];omega,⟨rfl,rfl⟩,_,AZ hlk,_,rfl,_,_,_,_,_,_,_,_,_,ge,_,_,_,_,_,_,_,_,_,s1,⟨rfl,rfl⟩,by omega,by rw[Aw];omega,⟨⟨⟨rfl,rfl⟩,rfl⟩,rfl⟩,by rw[Aw];omega,_,_,_,_,_,_,_,_,_,s2,⟨rfl,rfl⟩,by omega,by rw[List.length_set,Aw];omega,⟨⟨⟨rfl,rfl⟩,rfl⟩,rfl⟩,by rw[List.length_set,Aw];omega,⟨rfl,rfl⟩,by omega,by rw[Am];omega,⟨⟨⟨rfl,rfl⟩,rfl⟩,rfl⟩,by rw[Am];omega,rfl,rfl,?_⟩;refine⟨?_,_,_,_,_,_,rfl⟩;rw[show Int.toNat ((i-1+1:Nat):Int)=i-1+1 from rfl,show Int.toNat ((i-1:Nat):Int)=i-1 from rfl,D9,D9,Fe,MX,CU,KO (by omega),CI (by omega)]
     ·rw[I2,if_neg hj]at gj;refine⟨_,_,_,_,_,gj,Aa (λh=>by simp at h) (λ_=>?_)⟩;rw[even λh=>hj ⟨h.1,h.2.1,hab,h.2.2.1⟩];generalize Ag e2 (CC (Aq kid n.keys[i-1] nx) (AM kid nx))=q at s1 s2 |-;generalize Ag q.2 (Dc (Aq kid n.keys[i-1] nx) (AM kid nx))=q2 at s2 |-;rw[show w6 (((i-1:Nat):Int)+1)=((i-1+1:Nat):Int) by rw[Ad _ (by omega)];omega];refine⟨⟨rfl,rfl⟩,by omega,by rw[Am];omega,⟨rfl,rfl⟩,_,AZ hlk,_,rfl,_,_,_,_,_,_,_,_,_,ge,_,_,_,_,_,_,_,_,_,s1,⟨rfl,rfl⟩,by omega,by rw[Aw];omega,⟨⟨⟨rfl,rfl⟩,rfl⟩,rfl⟩,by rw[Aw];omega,_,_,_,_,_,_,_,_,_,s2,⟨rfl,rfl⟩,by omega,by rw[List.length_set,Aw];omega,⟨⟨⟨rfl,rfl⟩,rfl⟩,rfl⟩,by rw[List.length_set,Aw];omega,⟨rfl,rfl⟩,by omega,by rw[Am];omega,⟨⟨⟨rfl,rfl⟩,rfl⟩,rfl⟩,by rw[Am];omega,rfl,rfl,?_⟩;refine⟨?_,_,_,_,_,_,rfl⟩;rw[show Int.toNat ((i-1+1:Nat):Int)=i-1+1 from rfl,show Int.toNat ((i-1:Nat):Int)=i-1 from rfl,D9,D9,Fe,MX,CU,KO (by omega),CI (by omega)]
  ·have hli':¬i-1=i:=λh=>by rw[h]at hli;simp at hli
   have hic:i-1<n.kids.length:=by omega
   rw[if_neg hli',if_neg hli'];rw[gI hic,Option.getD_some];have c1:=aV e v hI.right n.kids[i-1] (d+1);obtain⟨l1,l2⟩:=DT (b:=n.kids[i-1]) (d:=d+1) hI;refine⟨⟨rfl,rfl⟩,by omega,by rw[Aw];omega,⟨rfl,rfl⟩,_,Eb hic,_,rfl,_,_,_,_,_,_,_,_,_,_,_,_,c1,?_⟩;have c9:=ABr key (AI e n.kids[i-1] (d+1)).2 v;refine Aa (λhb=>?_) (λhb=>?_)
   ·have hb:(AI e n.kids[i-1] (d+1)).2.bad≠0:=by simpa using hb
    rw[if_pos (.inl hb)];exact⟨_,_,_,_,_,_,_,_,_,c9,rfl,_,_,_,_,_,rfl⟩
   ·have hb:(AI e n.kids[i-1] (d+1)).2.bad=0:=by simpa using hb
    refine Aa (λhlf=>?_) (λhlf=>?_)
    ·have hlf:(AI e n.kids[i-1] (d+1)).1.leaf≠kid.leaf:=λh=>by rw[h]at hlf;simp at hlf
     rw[if_pos (.inr hlf)];exact⟨_,_,_,_,_,_,_,_,_,c9,rfl,_,_,_,_,_,rfl⟩
    ·have hlf:(AI e n.kids[i-1] (d+1)).1.leaf=kid.leaf:=by simpa using hlf
     rw[if_neg (λh=>h.elim (λh=>h hb) (λh=>h hlf))];obtain⟨l3,l4,l5,l6⟩:=l2 hb;rw[e3]at l5;have hok:=Cr l5;have sh:=R9 hok.1 hok.2.1;have h4:4<=(AI e n.kids[i-1] (d+1)).1.keys.length:=by rcases hok.2.2 with h|h;cases h;exact h
     obtain⟨d1,d2⟩:=Ev (b:=n.kids[i-1]) l1 hb (by rw[l4];exact l5);have c2:=cV (AI e n.kids[i-1] (d+1)).2 v l1.right n.kids[i-1];refine⟨⟨rfl,rfl⟩,by omega,by rw[Aw];omega,⟨rfl,rfl⟩,_,Eb hic,_,rfl,_,_,_,_,_,_,_,_,c2,?_⟩;generalize (AI e n.kids[i-1] (d+1)).1=nx at l5 hok sh h4 hlf |-;generalize B7 (AI e n.kids[i-1] (d+1)).2 n.kids[i-1]=e2 at d1 d2 |-;have sa:Shp nx:=sh;have sb:Shp kid:=hk;have fa:=sa.fits;have fb:=sb.fits;have hab:nx.leaf=kid.leaf:=hlf;have hx:kid.keys.length<nx.keys.length\/2<=kid.keys.length:=by omega
     refine Aa (λh=>by rw[hli]at h;cases h) (λ_=>?_);refine⟨⟨rfl,rfl⟩,by omega,by rw[Am];omega,⟨rfl,rfl⟩,_,AZ hlk,_,rfl,?_⟩;have gj:=ABO nx n.keys[i-1] kid fa fb;have gk:((n.keys[i-1]?).getD empS)=n.keys[i-1]:=by rw[gI hlk];rfl
     have ge:=yW nx n.keys[i-1] kid sa sb hab hx;have fj:=L7 n.keys[i-1] sa sb;have even:¬(Au nx/\Au kid/\Au (Aq nx n.keys[i-1] kid)/\(Aq nx n.keys[i-1] kid).keys.length<=8) ->
         BZ e2 n (i-1) nx kid=(MX n (i-1) (Ag e2 (CC (Aq nx n.keys[i-1] kid) (AM nx kid))).1 (Gt (Aq nx n.keys[i-1] kid) (AM nx kid)) (Ag (Ag e2 (CC (Aq nx n.keys[i-1] kid) (AM nx kid))).2 (Dc (Aq nx n.keys[i-1] kid) (AM nx kid))).1,(Ag (Ag e2 (CC (Aq nx n.keys[i-1] kid) (AM nx kid))).2 (Dc (Aq nx n.keys[i-1] kid) (AM nx kid))).2):=λh=>by
       unfold BZ
       dsimp only
       rw[gk,if_neg h]
     have s1:=JQ e2 v (λ_=>d1.right) (CC (Aq nx n.keys[i-1] kid) (AM nx kid)) (IV fj _).1;have s2:=JQ (Ag e2 (CC (Aq nx n.keys[i-1] kid) (AM nx kid))).2 v (λ_=>(BE d1).1.right) (Dc (Aq nx n.keys[i-1] kid) (AM nx kid)) (IV fj _).2;have sj:=JQ e2 v (λ_=>d1.right) (Aq nx n.keys[i-1] kid) fj.1;rw[KZ]at ge;by_cases hj:Au nx/\Au kid/\nx.leaf=kid.leaf/\Au (Aq nx n.keys[i-1] kid)
     ·rw[I2,if_pos hj]at gj;refine⟨_,_,_,_,_,gj,Aa (λ_=>?_) (λh=>by simp at h)⟩;refine Ab (λh8=>?_) (λh8=>?_)
      ·have h8:(Aq nx n.keys[i-1] kid).keys.length<=8:=by rw[Am]at h8;omega
       have ej:BZ e2 n (i-1) nx kid=(PI n (i-1) (Ag e2 (Aq nx n.keys[i-1] kid)).1,(Ag e2 (Aq nx n.keys[i-1] kid)).2):=by unfold BZ;dsimp only;rw[gk,if_pos ⟨hj.1,hj.2.1,hj.2.2.2,h8⟩]
       rw[ej];generalize Ag e2 (Aq nx n.keys[i-1] kid)=q at sj |-;rw[show w6 (((i-1:Nat):Int)+1)=((i-1+1:Nat):Int) by rw[Ad _ (by omega)];omega,show w6 (((i-1:Nat):Int)+2)=((i-1+1+1:Nat):Int) by rw[Ad _ (by omega)];omega];refine⟨_,_,_,_,_,_,_,_,_,sj,⟨rfl,rfl⟩,by omega,by rw[Aw];omega,⟨⟨⟨rfl,rfl⟩,rfl⟩,rfl⟩,by rw[Aw];omega,_,S6 n.keys (i-1) hlk rfl,_,fW (n.kids.set (i-1) q.1) (i-1+1) (by rw[List.length_set];omega) (congrArg (λz=>some (Ob.row false false 0 3 1 z)) (D9 n.kids (i-1) q.1)),rfl,rfl,?_⟩;refine⟨?_,_,_,_,_,_,rfl⟩;rw[PI,CU,Tp (by omega)];rfl
      ·have h8:¬(Aq nx n.keys[i-1] kid).keys.length<=8:=by rw[Am]at h8;omega
       rw[even λh=>h8 h.2.2.2];generalize Ag e2 (CC (Aq nx n.keys[i-1] kid) (AM nx kid))=q at s1 s2 |-;generalize Ag q.2 (Dc (Aq nx n.keys[i-1] kid) (AM nx kid))=q2 at s2 |-;rw[show w6 (((i-1:Nat):Int)+1)=((i-1+1:Nat):Int) by rw[Ad _ (by omega)];omega];refine⟨⟨rfl,rfl⟩,by omega,by rw[Am];omega,⟨rfl,rfl⟩,_,AZ hlk,_,rfl,_,_,_,_,_,_,_,_,_,ge,_,_,_,_,_,_,_,_,_,s1,⟨rfl,rfl⟩,by omega,by rw[Aw];omega,⟨⟨⟨rfl,rfl⟩,rfl⟩,rfl⟩,by rw[Aw];omega,_,_,_,_,_,_,_,_,_,s2,⟨rfl,rfl⟩,by omega,by rw[List.length_set,Aw];omega,⟨⟨⟨rfl,rfl⟩,rfl⟩,rfl⟩,by rw[List.length_set,Aw];omega,⟨rfl,rfl⟩,by omega,by rw[Am];omega,⟨⟨⟨rfl,rfl⟩,rfl⟩,rfl⟩,by rw[Am];omega,rfl,rfl,?_⟩;refine⟨?_,_,_,_,_,_,rfl⟩;rw[show Int.toNat ((i-1+1:Nat):Int)=i-1+1 from rfl,show Int.toNat ((i-1:Nat):Int)=i-1 from rfl,D9,D9,Fe,MX,CU,KO (by omega),CI (by omega)]
     ·rw[I2,if_neg hj]at gj;refine⟨_,_,_,_,_,gj,Aa (λh=>by simp at h) (λ_=>?_)⟩;rw[even λh=>hj ⟨h.1,h.2.1,hab,h.2.2.1⟩];generalize Ag e2 (CC (Aq nx n.keys[i-1] kid) (AM nx kid))=q at s1 s2 |-;generalize Ag q.2 (Dc (Aq nx n.keys[i-1] kid) (AM nx kid))=q2 at s2 |-;rw[show w6 (((i-1:Nat):Int)+1)=((i-1+1:Nat):Int) by rw[Ad _ (by omega)];omega];refine⟨⟨rfl,rfl⟩,by omega,by rw[Am];omega,⟨rfl,rfl⟩,_,AZ hlk,_,rfl,_,_,_,_,_,_,_,_,_,ge,_,_,_,_,_,_,_,_,_,s1,⟨rfl,rfl⟩,by omega,by rw[Aw];omega,⟨⟨⟨rfl,rfl⟩,rfl⟩,rfl⟩,by rw[Aw];omega,_,_,_,_,_,_,_,_,_,s2,⟨rfl,rfl⟩,by omega,by rw[List.length_set,Aw];omega,⟨⟨⟨rfl,rfl⟩,rfl⟩,rfl⟩,by rw[List.length_set,Aw];omega,⟨rfl,rfl⟩,by omega,by rw[Am];omega,⟨⟨⟨rfl,rfl⟩,rfl⟩,rfl⟩,by rw[Am];omega,rfl,rfl,?_⟩;refine⟨?_,_,_,_,_,_,rfl⟩;rw[show Int.toNat ((i-1+1:Nat):Int)=i-1+1 from rfl,show Int.toNat ((i-1:Nat):Int)=i-1 from rfl,D9,D9,Fe,MX,CU,KO (by omega),CI (by omega)]
 obtain⟨r,H',h,rfl,fz,a,b,K,C,rfl⟩:=main
 exact⟨fz,a,b,K,C,h⟩
theorem P5 {e:Ed}{n a b:Nd}{l:Nat}(hn:Shp n)(hnl:n.leaf=false)(hl:l<n.keys.length):Shp (BZ e n l a b).1:=by
 have h8:=hn.1;obtain⟨h1,h2⟩:=hn.inner hnl;unfold BZ;dsimp only;split;·refine⟨?_,.inr ⟨hnl,h1,?_⟩⟩<;>(unfold PI;dsimp only;simp only[List.length_append,List.length_take,List.length_drop,List.length_cons];omega)
 ·refine⟨?_,.inr ⟨hnl,h1,?_⟩⟩<;>(unfold MX;dsimp only;simp only[List.length_append,List.length_take,List.length_drop,List.length_cons];omega)
theorem Xa {w0:Wd}{e:Ed}{n kid:Nd}{i:Nat}{d:Int}(hI:Inv w0 e)(hn:Shp n)(hnl:n.leaf=false)(hnk:1<=n.keys.length)(hi:i<=n.keys.length)(hb:(EW e n i kid d).2.bad=0):Shp (EW e n i kid d).1:=by
 unfold EW at hb |-;dsimp only at hb |-;generalize ((n.kids[if i-1=i then i+1 else i-1]?).getD 0)=blk at hb |-;by_cases hc:(AI e blk (d+1)).2.bad≠0\/(AI e blk (d+1)).1.leaf≠kid.leaf;·rw[if_pos hc]at hb;exact absurd hb (Qf (DT (b:=blk) (d:=d+1) hI).1).2
 ·rw[if_neg hc];split;·exact P5 hn hnl (by omega)
  ·exact P5 hn hnl (by omega)
theorem bT {n:Nd}{i:Nat}(hn:Shp n)(hl:n.leaf=true)(hi:i<n.keys.length):Shp (QL n i):=by have h8:=hn.1;obtain⟨h1,h2⟩:=hn.leaf hl;refine⟨?_,.inl ⟨hl,?_,h2⟩⟩<;>(unfold QL De;dsimp only;simp only[List.length_append,List.length_take,List.length_drop];omega)
set_option maxHeartbeats 4000000 in
theorem AAk {w0:Wd}(key:bA):∀(f:Nat) (e:Ed) (v:Nat) (b d:Int),d+f=10->1<=d->1<=f->Inv w0 e ->
   Runs Az 152 [.ptr 11600504 0,aI b,aI d] (hP key e v) (CU (Fb key f e b d).1) (hP key (Fb key f e b d).2 v)/\((Fb key f e b d).2.bad=0->Shp (Fb key f e b d).1)
 | 0,e,v,b,d,_,_,h,_=>absurd h (by omega)
 | f+1,e,v,b,d,hd,h1,_,hI=>by
   have c1:=aV e v hI.right b d
   obtain⟨l1,l2⟩:=DT (b:=b) (d:=d) hI
   rw[Fb]
   dsimp only
   by_cases hb:(AI e b d).2.bad=0
   · rw[if_neg (by simpa using hb)]
     obtain⟨l3,l4,l5,l6⟩:=l2 hb
     have hok:=Cr l5
     have hs:=hok.1
     have sh:=R9 hs hok.2.1
     have hfit:=S9 hs
     obtain⟨k1,k2,k3⟩:=He hs
     obtain⟨d1,d2⟩:=Ev l1 hb (by rw[l4];exact l5)
     have c2:=cV (AI e b d).2 v l1.right b
     have hbf:((AI e b d).2.bad != 0)=false:=by simpa using hb
     generalize (AI e b d).1=n at c1 l5 hok hs sh hfit k1 k2 k3 |-
     generalize (AI e b d).2=e1 at c1 l1 hb hbf d1 d2 c2 |-
     have hd9:d<=8:=l6
     generalize B7 e1 b=e2 at c2 d1 d2 |-
     -- what is to be shown, by the condition
     have go:∀ {r:Nd} {e':Ed},TE key (Bg e.w.base) (Bg e.w.now) v e.w.root e.w.gen e.bad (AG e.w.pages) b d (λr' H'=>r'=CU r/\H'=hP key e' v) ->
         Runs Az 152 [.ptr 11600504 0,.n (.int .i64 b),.n (.int .i64 d)] (hP key e v) (CU r) (hP key e' v):=λ{r e'} hV=>by
       refine D8 fK rfl (by kernel_rfl) ?_
       have:=ZB key (Bg e.w.base) (Bg e.w.now) v e.w.root e.w.gen e.bad (AG e.w.pages) b d (λr' H'=>r'=CU r/\H'=hP key e' v)
       exact this▸hV
     cases hl:n.leaf with
     | true=>
       rw[if_pos rfl]
       have hsr:=EU n.keys key
       obtain⟨v1,v2⟩:=FW hs hl
       have c3:=(lC n key hfit hs).up DL
       by_cases ha:Dd n.keys key=true
       · rw[if_pos ha]
         have hsl:=gE ha
         refine⟨go ?_,λ_=>bT sh hl hsl⟩
         rw[(JS _ _ _ _ _ _ _ _ _ _ _).down]
         refine⟨_,_,_,_,_,_,_,_,_,_,_,_,c1,Aa (λh=>by rw[hbf]at h;cases h) (λ_=>⟨_,_,_,_,_,_,_,_,c2,Aa (λ_=>?_) (λh=>by rw[hl]at h;cases h)⟩)⟩
         refine⟨_,_,c3,Aa (λh=>by rw[ha]at h;cases h) (λ_=>?_)⟩
         exact⟨_,_,_,_,ACC n (AL n.keys key) hsl v2 (by omega),rfl,rfl⟩
       · rw[if_neg ha]
         have ha:Dd n.keys key=false:=by simpa using ha
         refine⟨go ?_,λh=>by cases h⟩
         rw[(JS _ _ _ _ _ _ _ _ _ _ _).down]
         refine⟨_,_,_,_,_,_,_,_,_,_,_,_,c1,Aa (λh=>by rw[hbf]at h;cases h) (λ_=>⟨_,_,_,_,_,_,_,_,c2,Aa (λ_=>?_) (λh=>by rw[hl]at h;cases h)⟩)⟩
         exact⟨_,_,c3,Aa (λ_=>⟨rfl,rfl⟩) (λh=>by rw[ha]at h;cases h)⟩
     | false=>
       rw[if_neg (by simp)]
       obtain⟨v1,v2⟩:=EH hs hl
       have hk:=W1 hs hl key
       have hki:=Ui hs.2.1 key
       have hkle:=FF n.keys key
       rw[hki]at hk
       have c3:=(gF n key hfit hs hl).up DL
       rw[hki]at c3
       have hnk:1<=n.keys.length:=by
         rcases hs.2.2 with⟨h,_⟩|⟨_,_,h,_⟩
         · rw[hl]at h;cases h
         · exact h
       obtain⟨ih,ih2⟩:=AAk key f e2 v ((n.kids[Ax n.keys key]?).getD 0) (d+1) (by omega) (by omega) (by omega) d1
       have ri:=KD (key:=key) f e2 ((n.kids[Ax n.keys key]?).getD 0) (d+1) d1
       generalize hrr:Fb key f e2 ((n.kids[Ax n.keys key]?).getD 0) (d+1)=r at ih ih2 ri |-
       rw[gI hk,Option.getD_some]at ih
       obtain⟨kid,e3⟩:=r
       dsimp only at ih ih2 ri |-
       by_cases hb3:e3.bad=0
       · rw[if_neg (by simpa using hb3)]
         have hb3f:(e3.bad != 0)=false:=by simpa using hb3
         have i3:Inv w0 e3:=by
           rcases ri with h|h
           · omega
           · exact h.1
         have ks:=ih2 hb3
         obtain⟨q1,q2,q3⟩:=ks.lens
         by_cases h4:4<=kid.keys.length
         · rw[B8,if_pos h4]
           have c4:=JQ e3 v (λ_=>i3.right) kid ks.fits
           refine⟨go ?_,λ_=>⟨sh.1,.inr ⟨hl,v1,by dsimp only;rw[List.length_set];exact v2⟩⟩⟩
           rw[(JS _ _ _ _ _ _ _ _ _ _ _).down]
           refine⟨_,_,_,_,_,_,_,_,_,_,_,_,c1,Aa (λh=>by rw[hbf]at h;cases h) (λ_=>⟨_,_,_,_,_,_,_,_,c2,Aa (λh=>by rw[hl]at h;cases h) (λ_=>?_)⟩)⟩
           rw[Ad (d+1) (by omega)]
           refine⟨_,c3,rfl,by omega,_,Eb hk,_,rfl,_,_,_,_,_,_,_,_,_,_,_,_,_,ih,Aa (λh=>by rw[hb3f]at h;cases h) (λ_=>?_)⟩
           refine⟨_,_,(((AO HL (AG n.keys) (by rw[Am];omega)).up E4).up DL),_,_,AO W9 (il n.kids) (by rw[Aw];omega),Ab (λ_=>?_) (λh=>absurd (by rw[Am];omega) h)⟩
           refine⟨_,_,_,_,_,_,_,_,_,c4,⟨rfl,rfl⟩,by omega,by rw[Aw];omega,⟨⟨⟨rfl,rfl⟩,rfl⟩,rfl⟩,by rw[Aw];omega,rfl,rfl,?_,rfl⟩
           rw[show Int.toNat ((Ax n.keys key:Nat):Int)=Ax n.keys key from rfl,D9,hl];rfl
         · rw[B8,if_neg h4]
           obtain⟨fz,a,b2,K,C,c4⟩:=ADh key e3 v i3 n sh hl hnk (Ax n.keys key) hkle kid ks (by omega) d ⟨h1,by omega⟩
           refine⟨go ?_,λh=>Xa i3 sh hl hnk hkle h⟩
           rw[(JS _ _ _ _ _ _ _ _ _ _ _).down]
           refine⟨_,_,_,_,_,_,_,_,_,_,_,_,c1,Aa (λh=>by rw[hbf]at h;cases h) (λ_=>⟨_,_,_,_,_,_,_,_,c2,Aa (λh=>by rw[hl]at h;cases h) (λ_=>?_)⟩)⟩
           rw[Ad (d+1) (by omega)]
           refine⟨_,c3,rfl,by omega,_,Eb hk,_,rfl,_,_,_,_,_,_,_,_,_,_,_,_,_,ih,Aa (λh=>by rw[hb3f]at h;cases h) (λ_=>?_)⟩
           refine⟨_,_,(((AO HL (AG n.keys) (by rw[Am];omega)).up E4).up DL),_,_,AO W9 (il n.kids) (by rw[Aw];omega),Ab (λh=>absurd h (by rw[Am];omega)) (λ_=>?_)⟩
           exact⟨_,_,_,_,_,_,_,_,_,_,_,_,_,_,_,_,_,_,c4,rfl,rfl⟩
       · rw[if_pos hb3]
         have hb3f:(e3.bad != 0)=true:=by simpa using hb3
         refine⟨go ?_,λh=>absurd h hb3⟩
         rw[(JS _ _ _ _ _ _ _ _ _ _ _).down]
         refine⟨_,_,_,_,_,_,_,_,_,_,_,_,c1,Aa (λh=>by rw[hbf]at h;cases h) (λ_=>⟨_,_,_,_,_,_,_,_,c2,Aa (λh=>by rw[hl]at h;cases h) (λ_=>?_)⟩)⟩
         rw[Ad (d+1) (by omega)]
         exact⟨_,c3,rfl,by omega,_,Eb hk,_,rfl,_,_,_,_,_,_,_,_,_,_,_,_,_,ih,Aa (λ_=>⟨rfl,rfl⟩) (λh=>by rw[hb3f]at h;cases h)⟩
   · rw[if_pos hb]
     refine⟨?_,λh=>absurd h hb⟩
     refine D8 fK rfl (by kernel_rfl) ?_
     unfold hP hE ZM
     rw[ZB,(JS _ _ _ _ _ _ _ _ _ _ _).down]
     exact⟨_,_,_,_,_,_,_,_,_,_,_,_,c1,Aa (λ_=>⟨rfl,rfl⟩) (λh=>absurd h (by simpa using hb))⟩
theorem ABC (key:bA):Runs Az 115 [.n (.str key)] [] (.n (.bool (decide (isKeyP key)))) []:=by
 refine An (c:=c115) rfl rfl ?_;rw[AAS,AAl];refine Ab (λh1=>?_) (λh1=>?_);·congr 2;rw[decide_eq_decide,isKeyP];omega
 ·rw[decide_eq_false (by unfold isKeyP;omega)]
theorem ADa (w:Wd)(hf:WFits w)(key:bA):Runs Az 116 [EA w,aS key] [] (jC (D1 w key)) []:=by
 have g1:=(sT w hf).up DL;have g2:=ABC key;refine An (c:=c116) rfl rfl ?_;rw[EA,xC,(ACj _ _ _ _ _ _ _).down];refine⟨_,g1,?_⟩;by_cases hr:WRight w
 ·rw[decide_eq_true hr];refine Aa (λh=>by cases h) (λ_=>⟨_,g2,?_⟩);by_cases hp:isKeyP key
  ·rw[decide_eq_true hp];refine Aa (λh=>by cases h) (λ_=>?_);have hlen:w.pages.length<=100000:=by have:=hr.2.1;have:=hr.1.2.2.1;omega
   have hI:=Inv.start hr;rw[D1,if_neg (by simpa using⟨hr,hp⟩)];refine Aa (λh0=>?_) (λh0=>?_);·rw[if_pos (by simpa using h0)];rfl
   ·rw[if_neg (by simpa using h0)];obtain⟨c1,q1⟩:=AAk key 9 ⟨w,0⟩ 0 w.root 1 (by omega) (by omega) (by omega) hI;have ri:=KD (key:=key) 9 ⟨w,0⟩ w.root 1 hI;rw[FC];generalize Fb key 9 ⟨w,0⟩ w.root 1=r at c1 q1 ri |-;obtain⟨n,e1⟩:=r;dsimp only at c1 q1 ri |-;refine⟨(),_,_,_,_,_,_,_,_,uW w hlen,_,_,_,_,_,_,_,_,_,_,_,_,_,c1,Aa (λhb=>?_) (λhb=>?_)⟩
    ·have hb:e1.bad≠0:=by simpa using hb
     rw[if_pos hb,MY,if_pos (show(BO (0,e1)).bad≠0 from hb)];rfl
    ·have hb:e1.bad=0:=by simpa using hb
     rw[if_neg (by simpa using hb)];have sh:=q1 hb;have i1:Inv w e1:=by
      rcases ri with h|h;·omega
      ·exact h.1
     refine Ab (λhk=>?_) (λhk=>?_)
     ·have hk:n.keys≠[]:=by rw[Am]at hk;intro h;rw[h]at hk;simp at hk
      rw[if_pos hk];have c2:=JQ e1 0 (λ_=>i1.right) n sh.fits;have c3:=Va (BO (Ag e1 n)) 0;exact⟨_,_,_,_,_,_,_,_,_,c2,_,_,_,_,_,_,_,_,_,_,_,_,_,_,_,c3,rfl⟩
     ·have hk:n.keys=[]:=by rw[Am]at hk;exact List.length_eq_zero_iff.1 (by omega)
      rw[if_neg (by simpa using hk)];refine Aa (λhl=>?_) (λhl=>?_);·rw[if_pos hl];have c3:=Va (BO (0,e1)) 0;exact⟨_,_,_,_,_,_,_,_,_,_,_,_,_,_,_,c3,rfl⟩
      ·rw[if_neg (by rw[hl];simp)];obtain⟨s1,s2⟩:=sh.inner hl;have h0:0<n.kids.length:=by omega
       rw[gI h0,Option.getD_some];have c3:=Va (BO (n.kids[0],e1)) 0;exact⟨rfl,by decide,_,Eb h0,_,rfl,_,_,_,_,_,_,_,_,_,_,_,_,_,_,_,c3,rfl⟩
  ·rw[decide_eq_false hp];refine Aa (λ_=>?_) (λh=>by cases h);rw[D1,if_pos (λh=>hp h.2)];rfl
 ·rw[decide_eq_false hr];refine Aa (λ_=>?_) (λh=>by cases h);rw[D1,if_pos (λh=>hr h.1)];rfl
theorem RC {w:Wd}{key val:bA}(h:(Ea w key val).2=0):WRight (Ea w key val).1:=by
 by_cases hc:WRight w/\isPair key val
 ·rcases YZ hc.1 hc.2 with(e|e)|⟨x,e,hx,_⟩
  ·rw[e]at h;cases h
  ·rw[e]at h;cases h
  ·rw[e];exact hx
 ·rw[Ea,if_pos hc]at h;cases h
theorem RP {w:Wd}{key:bA}(h:(D1 w key).2=0):WRight (D1 w key).1:=by
 by_cases hc:WRight w/\isKeyP key
 ·rcases Yw hc.1 hc.2 with(e|e|e)|⟨x,e,hx,_⟩
  ·rw[e]at h;cases h
  ·rw[e]at h;cases h
  ·rw[e]at h;cases h
  ·rw[e];exact hx
 ·rw[D1,if_pos hc]at h;cases h
abbrev wT:=List D×List D×List D×Int×Int×Unit
def wdC (w:Wd):wT:=(Bg w.base,Bg w.now,AG w.pages,w.root,w.gen,())
theorem Rd {α:Type}{l:List α}{i:Nat}(h:i<l.length):l.drop i=l[i]::l.drop (i+1):=List.drop_eq_getElem_cons h
def Lu (l:List Chg):List Mir.D:=l.map λc => .rcd [.str c.key,.str c.val,.bool c.gone]
theorem Pj (l:List Chg):(Lu l).length=l.length:=by simp[Lu]
theorem mK {l:List Chg}{i:Nat}(h:i<l.length):(Lu l)[i]?=some (.rcd [.str l[i].key,.str l[i].val,.bool l[i].gone]):=by simp[Lu,h]
theorem p70 (w:Wd)(hf:WFits w)(l:List Chg)(hl:Small l.length):Runs Az 70 [EA w,.o (.sl 3 (Lu l))] [] (jC (HB E3 w l)) []:=by
 have g1:=(sT w hf).up DL;refine An (c:=c70) rfl rfl ?_;rw[EA,AEQ,(ACN _ _ _ _ _ _ _).down,Pj l];refine⟨_,g1,?_⟩;by_cases hr:WRight w
 ·rw[decide_eq_true hr,HB,if_neg (by simpa using hr)];refine Aa (λh=>by cases h) (λ_=>?_);refine⟨λi q _=>0<=i/\i<=l.length/\∃w',q=wdC w'/\WRight w'/\Cu E3 w l=Cu E3 w' (l.drop i.toNat),λi _ _=>(l.length-i).toNat,⟨rfl,by omega,by omega,w,rfl,hr,rfl⟩,?_⟩;rintro i q z ⟨h0,h1,w',rfl,hr',hq⟩ _;refine Ab (λhlt=>?_) (λhge=>?_)
  ·have hi:i.toNat<l.length:=by omega
   have stay:∀ {w2:Wd},WRight w2->E3 w' l[i.toNat]=(w2,0)->0<=i+1/\i+1<=(l.length:Int)/\∃w3,wdC w2=wdC w3/\WRight w3/\Cu E3 w l=Cu E3 w3 (l.drop (i+1).toNat):=λ{w2} h2 he=>by refine⟨by omega,by omega,w2,rfl,h2,?_⟩;rw[hq,Rd hi,Cu,he,if_neg (by simp),show(i+1).toNat=i.toNat+1 by omega]
   have stop:∀ {e:Int} {w2:Wd},E3 w' l[i.toNat]=(w2,e)->e≠0->Cu E3 w l=(O2,e):=λ{e w2} he h0=>by rw[hq,Rd hi,Cu,he,if_pos h0]
   refine⟨rfl,h0,_,mK hi,_,_,_,rfl,by simp[D.cells],?_⟩;generalize l[i.toNat]=c at stay stop;refine Aa (λhg=>?_) (λhg=>?_)
   ·have hg:c.gone=false:=by simpa using hg
    have e:E3 w' c=Ea w' c.key c.val:=by rw[E3,if_pos hg]
    refine⟨_,_,_,_,_,_,AHl w' (Cv hr') c.key c.val,Aa (λhb=>?_) (λhb=>?_)⟩
    ·have hb:(Ea w' c.key c.val).2≠0:=by simpa using hb
     rw[stop (e:=(Ea w' c.key c.val).2) (w2:=(Ea w' c.key c.val).1) e hb];rfl
    ·have hb:(Ea w' c.key c.val).2=0:=by simpa using hb
     repeat (refine And.intro rfl ?_)
     rw[Ad _ (by omega)];exact⟨stay (RC hb) (e.trans (Prod.ext rfl hb)),by first|omega|(dsimp only;omega)⟩
   ·have hg:c.gone≠false:=by simpa using hg
    refine⟨_,ABC c.key,?_⟩;by_cases hp:isKeyP c.key
    ·rw[decide_eq_true hp];refine Aa (λh=>by cases h) (λ_=>?_);have ev:(c.val.toList==(ByteArray.mk (List.toArray [])).toList)=decide (c.val=empS):=DJ c.val empS;rw[ev];by_cases hv:c.val=empS
     ·rw[decide_eq_true hv];refine Aa (λh=>by cases h) (λ_=>?_);have e:E3 w' c=if (D1 w' c.key).2=80 then (w',0) else D1 w' c.key:=by rw[E3,if_neg hg,if_neg (λh=>h.elim (λh=>h hp) (λh=>h hv))]
      refine⟨_,_,_,_,_,_,ADa w' (Cv hr') c.key,Aa (λh8=>?_) (λh8=>?_)⟩
      ·have h8:(D1 w' c.key).2=80:=by simpa using h8
       rw[if_pos h8]at e;repeat (refine And.intro rfl ?_)
       rw[Ad _ (by omega)];exact⟨stay hr' e,by first|omega|(dsimp only;omega)⟩
      ·have h8:(D1 w' c.key).2≠80:=by simpa using h8
       rw[if_neg h8]at e;refine Aa (λhb=>?_) (λhb=>?_)
       ·have hb:(D1 w' c.key).2≠0:=by simpa using hb
        rw[stop (e:=(D1 w' c.key).2) (w2:=(D1 w' c.key).1) e hb];rfl
       ·have hb:(D1 w' c.key).2=0:=by simpa using hb
        repeat (refine And.intro rfl ?_)
        rw[Ad _ (by omega)];exact⟨stay (RP hb) (e.trans (Prod.ext rfl hb)),by first|omega|(dsimp only;omega)⟩
     ·rw[decide_eq_false hv];refine Aa (λ_=>?_) (λh=>by cases h);rw[stop (e:=1) (w2:=w') (by rw[E3,if_neg hg,if_pos (.inr hv)]) (by decide)];rfl
    ·rw[decide_eq_false hp];refine Aa (λ_=>?_) (λh=>by cases h);rw[stop (e:=1) (w2:=w') (by rw[E3,if_neg hg,if_pos (.inl hp)]) (by decide)];rfl
  ·rw[List.drop_eq_nil_of_le (by omega),Cu]at hq;rw[hq];rfl
 ·rw[decide_eq_false hr,HB,if_pos hr];exact Aa (λ_=>rfl) (λh=>by cases h)
end Go.Proofs.YtegndijbpiccgaaGreatDoor.M
