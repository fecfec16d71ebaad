import Derived.Test.YtjmpnbbeplgchabGreatDoorR6EdZ
namespace Go.Proofs.YtjmpnbbeplgchabGreatDoor.M
set_option linter.unusedVariables false
set_option linter.unusedSimpArgs false
open Go Go.Mir
set_option maxRecDepth 100000 in
set_option maxHeartbeats 11300000 in
theorem AIN {w0:Wd}(key:bA)(e:Ed)(v:Nat)(hI:Inv w0 e)(n:Nd)(hn:Shp n)(hnl:n.leaf=false)(hnk:1<=n.keys.length)(i:Nat)(hi:i<=n.keys.length)(kid:Nd)(hk:Shp kid)(hk4:kid.keys.length<4)(d:Int)(hd:1<=d/\d<=100):
  ∃fz a b K C,Runs Az 135 [.ptr 4900504 0,.agg [aB n.leaf,.row 9051502 0,aL (AK n.vals),.row 9051505 0],aI i,CO kid,aI d] (hF key e v false 0 0 (AK n.keys) (il n.kids)) (CO (F1 e n i kid d).1) (hF key (F1 e n i kid d).2 v fz a b K C):=by
 have main:∃r H',Runs Az 135 [.ptr 4900504 0,.agg [.n (.bool n.leaf),.row 9051502 0,.o (.sl 1 (AK n.vals)),.row 9051505 0],.n (.int .i64 i),CO kid,.n (.int .i64 d)] (hF key e v false 0 0 (AK n.keys) (il n.kids)) r H'/\(r=CO (F1 e n i kid d).1/\∃fz a b K C,H'=hF key (F1 e n i kid d).2 v fz a b K C):=by
  refine DI (R:=λr H'=>r=CO (F1 e n i kid d).1/\∃fz a b K C,H'=hF key (F1 e n i kid d).2 v fz a b K C) AAH rfl (by kernel_rfl) ?_;obtain⟨n1,n2⟩:=hn.inner hnl;obtain⟨n3,_,n4⟩:=hn.lens;obtain⟨m1,m2,m3⟩:=hk.lens;have hlk:i-1<n.keys.length:=by omega
  have eL:Cs true (wI ((i:Int)-1)) 0=((i-1:Nat):Int):=by rw[Ac _ (by omega)];unfold Cs;simp only[if_true];split<;>omega
  rw[CO];show Vc Az c135.body _ [(4900504,.box [.ptr 8600202 0,.n (.str key)]),(8600202,.box [.o (.sl 1 (Bk e.w.base)),.o (.sl 1 (Bk e.w.now)),.row 8650102 v,.n (.int .i64 e.w.root),.n (.int .i64 e.w.gen),.n (.int .i64 e.bad)]),(8650102,.row false false v 9 1 (AK e.w.pages)),(9051502,.row false false 0 9 1 (AK n.keys)),(9051505,.row false false 0 3 1 (il n.kids))] (AQ c135 [(4900504,.box [.ptr 8600202 0,.n (.str key)]),(8600202,.box [.o (.sl 1 (Bk e.w.base)),.o (.sl 1 (Bk e.w.now)),.row 8650102 v,.n (.int .i64 e.w.root),.n (.int .i64 e.w.gen),.n (.int .i64 e.bad)]),(8650102,.row false false v 9 1 (AK e.w.pages)),(9051502,.row false false 0 9 1 (AK n.keys)),(9051505,.row false false 0 3 1 (il n.kids))] _);rw[lJ,(oQ _ _ _ _ _ _ _ _ _ _ _ _ _ _ _ _ _ _ _ _ _).down,eL];have e1:wI ((i:Int)+1)=((i+1:Nat):Int):=by rw[Ac _ (by omega)];omega
  have e3:(d+1==1)=false:=by simp;omega
  rw[e1,Ac (d+1) (by omega)];unfold F1;dsimp only;refine Aa (λhli=>?_) (λhli=>?_)
  ·have hli':i-1=i:=by have:=eq_of_beq hli;omega
   have hic:i+1<n.kids.length:=by omega
   rw[if_pos hli',if_pos hli'];rw[gI hic,Option.getD_some];have c1:=dT e v hI.right n.kids[i+1] (d+1);obtain⟨l1,l2⟩:=DS (b:=n.kids[i+1]) (d:=d+1) hI;refine⟨⟨rfl,rfl⟩,by omega,by rw[Au];omega,⟨rfl,rfl⟩,_,D1 hic,_,rfl,_,_,_,_,_,_,_,_,_,_,_,_,c1,?_⟩;have c9:=AA5 key (AN e n.kids[i+1] (d+1)).2 v;refine Aa (λhb=>?_) (λhb=>?_)
   ·have hb:(AN e n.kids[i+1] (d+1)).2.bad≠0:=by simpa using hb
    rw[if_pos (.inl hb)];exact⟨_,_,_,_,_,_,_,_,_,c9,rfl,_,_,_,_,_,rfl⟩
   ·have hb:(AN e n.kids[i+1] (d+1)).2.bad=0:=by simpa using hb
    refine Aa (λhlf=>?_) (λhlf=>?_)
    ·have hlf:(AN e n.kids[i+1] (d+1)).1.leaf≠kid.leaf:=λh=>by rw[h]at hlf;simp at hlf
     rw[if_pos (.inr hlf)];exact⟨_,_,_,_,_,_,_,_,_,c9,rfl,_,_,_,_,_,rfl⟩
    ·have hlf:(AN e n.kids[i+1] (d+1)).1.leaf=kid.leaf:=by simpa using hlf
     rw[if_neg (λh=>h.elim (λh=>h hb) (λh=>h hlf))];obtain⟨l3,l4,l5,l6⟩:=l2 hb;rw[e3]at l5;have hok:=D7 l5;have sh:=SS hok.1 hok.2.1;have h4:4<=(AN e n.kids[i+1] (d+1)).1.keys.length:=by rcases hok.2.2 with h|h;cases h;exact h
     obtain⟨d1,d2⟩:=En (b:=n.kids[i+1]) l1 hb (by rw[l4];exact l5);have c2:=eW (AN e n.kids[i+1] (d+1)).2 v l1.right n.kids[i+1];refine⟨⟨rfl,rfl⟩,by omega,by rw[Au];omega,⟨rfl,rfl⟩,_,D1 hic,_,rfl,_,_,_,_,_,_,_,_,c2,?_⟩;generalize (AN e n.kids[i+1] (d+1)).1=nx at l5 hok sh h4 hlf |-;generalize CP (AN e n.kids[i+1] (d+1)).2 n.kids[i+1]=e2 at d1 d2 |-;have sa:Shp kid:=hk;have sb:Shp nx:=sh;have fa:=sa.fits;have fb:=sb.fits;have hab:kid.leaf=nx.leaf:=hlf.symm;have hx:nx.keys.length<kid.keys.length\/2<=nx.keys.length:=by omega
     refine Aa (λ_=>?_) (λh=>by rw[hli]at h;cases h);refine⟨⟨rfl,rfl⟩,by omega,by rw[Al];omega,⟨rfl,rfl⟩,_,A0 hlk,_,rfl,?_⟩;have gj:=AB0 kid n.keys[i-1] nx fa fb;have gk:((n.keys[i-1]?).getD Ar)=n.keys[i-1]:=by rw[gI hlk];rfl
     have ge:=ACE kid n.keys[i-1] nx sa sb hab hx;have fj:=Mz n.keys[i-1] sa sb;have even:¬(Ay kid/\Ay nx/\Ay (Av kid n.keys[i-1] nx)/\(Av kid n.keys[i-1] nx).keys.length<=8) ->
         DZ e2 n (i-1) kid nx=(Rf n (i-1) (Ao e2 (Et (Av kid n.keys[i-1] nx) (A3 kid nx))).1 (U0 (Av kid n.keys[i-1] nx) (A3 kid nx)) (Ao (Ao e2 (Et (Av kid n.keys[i-1] nx) (A3 kid nx))).2 (Gh (Av kid n.keys[i-1] nx) (A3 kid nx))).1,(Ao (Ao e2 (Et (Av kid n.keys[i-1] nx) (A3 kid nx))).2 (Gh (Av kid n.keys[i-1] nx) (A3 kid nx))).2):=λh=>by
       unfold DZ
       dsimp only
       rw[gk,if_neg h]
     have s1:=Vo e2 v (λ_=>d1.right) (Et (Av kid n.keys[i-1] nx) (A3 kid nx)) (IH fj _).1;have s2:=Vo (Ao e2 (Et (Av kid n.keys[i-1] nx) (A3 kid nx))).2 v (λ_=>(BG d1).1.right) (Gh (Av kid n.keys[i-1] nx) (A3 kid nx)) (IH fj _).2;have sj:=Vo e2 v (λ_=>d1.right) (Av kid n.keys[i-1] nx) fj.1;rw[KT]at ge;by_cases hj:Ay kid/\Ay nx/\kid.leaf=nx.leaf/\Ay (Av kid n.keys[i-1] nx)
     ·rw[I6,if_pos hj]at gj;refine⟨_,_,_,_,_,gj,Aa (λ_=>?_) (λh=>by simp at h)⟩;refine Ab (λh8=>?_) (λh8=>?_)
      ·have h8:(Av kid n.keys[i-1] nx).keys.length<=8:=by rw[Al]at h8;omega
       have ej:DZ e2 n (i-1) kid nx=(UL n (i-1) (Ao e2 (Av kid n.keys[i-1] nx)).1,(Ao e2 (Av kid n.keys[i-1] nx)).2):=by unfold DZ;dsimp only;rw[gk,if_pos ⟨hj.1,hj.2.1,hj.2.2.2,h8⟩]
       rw[ej];generalize Ao e2 (Av kid n.keys[i-1] nx)=q at sj |-;rw[show wI (((i-1:Nat):Int)+1)=((i-1+1:Nat):Int) by rw[Ac _ (by omega)];omega,show wI (((i-1:Nat):Int)+2)=((i-1+1+1:Nat):Int) by rw[Ac _ (by omega)];omega];refine⟨_,_,_,_,_,_,_,_,_,sj,⟨rfl,rfl⟩,by omega,by rw[Au];omega,⟨⟨⟨rfl,rfl⟩,rfl⟩,rfl⟩,by rw[Au];omega,_,Uw n.keys (i-1) hlk rfl,_,iJ (n.kids.set (i-1) q.1) (i-1+1) (by rw[List.length_set];omega) (congrArg (λz=>some (Ob.row false false 0 3 1 z)) (DX n.kids (i-1) q.1)),rfl,rfl,?_⟩;refine⟨?_,_,_,_,_,_,rfl⟩;rw[UL,CO,Tb (by omega)];rfl
      ·have h8:¬(Av kid n.keys[i-1] nx).keys.length<=8:=by rw[Al]at h8;omega
       rw[even λh=>h8 h.2.2.2];generalize Ao e2 (Et (Av kid n.keys[i-1] nx) (A3 kid nx))=q at s1 s2 |-;generalize Ao q.2 (Gh (Av kid n.keys[i-1] nx) (A3 kid nx))=q2 at s2 |-;rw[show wI (((i-1:Nat):Int)+1)=((i-1+1:Nat):Int) by rw[Ac _ (by omega)];omega];refine⟨⟨rfl,rfl⟩,by omega,by rw[Al];omega,⟨rfl,rfl⟩,_,A0 hlk,_,rfl,_,_,_,_,_,_,_,_,_,ge,_,_,_,_,_,_,_,_,_,s1,⟨rfl,rfl⟩,by omega,by rw[Au];omega,⟨⟨⟨rfl,rfl⟩,rfl⟩,rfl⟩,by rw[Au];omega,_,_,_,_,_,_,_,_,_,s2,⟨rfl,rfl⟩,by omega,by rw[List.length_set,Au];omega,⟨⟨⟨rfl,rfl⟩,rfl⟩,rfl⟩,by rw[List.length_set,Au];omega,⟨rfl,rfl⟩,by omega,by rw[Al];omega,⟨⟨⟨rfl,rfl⟩,rfl⟩,rfl⟩,by rw[Al];omega,rfl,rfl,?_⟩;refine⟨?_,_,_,_,_,_,rfl⟩;rw[show Int.toNat ((i-1+1:Nat):Int)=i-1+1 from rfl,show Int.toNat ((i-1:Nat):Int)=i-1 from rfl,DX,DX,EU,Rf,CO,KN (by omega),E6 (by omega)]
     ·rw[I6,if_neg hj]at gj;refine⟨_,_,_,_,_,gj,Aa (λh=>by simp at h) (λ_=>?_)⟩;rw[even λh=>hj ⟨h.1,h.2.1,hab,h.2.2.1⟩];generalize Ao e2 (Et (Av kid n.keys[i-1] nx) (A3 kid nx))=q at s1 s2 |-;generalize Ao q.2 (Gh (Av kid n.keys[i-1] nx) (A3 kid nx))=q2 at s2 |-;rw[show wI (((i-1:Nat):Int)+1)=((i-1+1:Nat):Int) by rw[Ac _ (by omega)];omega];refine⟨⟨rfl,rfl⟩,by omega,by rw[Al];omega,⟨rfl,rfl⟩,_,A0 hlk,_,rfl,_,_,_,_,_,_,_,_,_,ge,_,_,_,_,_,_,_,_,_,s1,⟨rfl,rfl⟩,by omega,by rw[Au];omega,⟨⟨⟨rfl,rfl⟩,rfl⟩,rfl⟩,by rw[Au];omega,_,_,_,_,_,_,_,_,_,s2,⟨rfl,rfl⟩,by omega,by rw[List.length_set,Au];omega,⟨⟨⟨rfl,rfl⟩,rfl⟩,rfl⟩,by rw[List.length_set,Au];omega,⟨rfl,rfl⟩,by omega,by rw[Al];omega,⟨⟨⟨rfl,rfl⟩,rfl⟩,rfl⟩,by rw[Al];omega,rfl,rfl,?_⟩;refine⟨?_,_,_,_,_,_,rfl⟩;rw[show Int.toNat ((i-1+1:Nat):Int)=i-1+1 from rfl,show Int.toNat ((i-1:Nat):Int)=i-1 from rfl,DX,DX,EU,Rf,CO,KN (by omega),E6 (by omega)]
  ·have hli':¬i-1=i:=λh=>by rw[h]at hli;simp at hli
   have hic:i-1<n.kids.length:=by omega
   rw[if_neg hli',if_neg hli'];rw[gI hic,Option.getD_some];have c1:=dT e v hI.right n.kids[i-1] (d+1);obtain⟨l1,l2⟩:=DS (b:=n.kids[i-1]) (d:=d+1) hI;refine⟨⟨rfl,rfl⟩,by omega,by rw[Au];omega,⟨rfl,rfl⟩,_,D1 hic,_,rfl,_,_,_,_,_,_,_,_,_,_,_,_,c1,?_⟩;have c9:=AA5 key (AN e n.kids[i-1] (d+1)).2 v;refine Aa (λhb=>?_) (λhb=>?_)
   ·have hb:(AN e n.kids[i-1] (d+1)).2.bad≠0:=by simpa using hb
    rw[if_pos (.inl hb)];exact⟨_,_,_,_,_,_,_,_,_,c9,rfl,_,_,_,_,_,rfl⟩
   ·have hb:(AN e n.kids[i-1] (d+1)).2.bad=0:=by simpa using hb
    refine Aa (λhlf=>?_) (λhlf=>?_)
    ·have hlf:(AN e n.kids[i-1] (d+1)).1.leaf≠kid.leaf:=λh=>by rw[h]at hlf;simp at hlf
     rw[if_pos (.inr hlf)];exact⟨_,_,_,_,_,_,_,_,_,c9,rfl,_,_,_,_,_,rfl⟩
    ·have hlf:(AN e n.kids[i-1] (d+1)).1.leaf=kid.leaf:=by simpa using hlf
     rw[if_neg (λh=>h.elim (λh=>h hb) (λh=>h hlf))];obtain⟨l3,l4,l5,l6⟩:=l2 hb;rw[e3]at l5;have hok:=D7 l5;have sh:=SS hok.1 hok.2.1;have h4:4<=(AN e n.kids[i-1] (d+1)).1.keys.length:=by rcases hok.2.2 with h|h;cases h;exact h
     obtain⟨d1,d2⟩:=En (b:=n.kids[i-1]) l1 hb (by rw[l4];exact l5);have c2:=eW (AN e n.kids[i-1] (d+1)).2 v l1.right n.kids[i-1];refine⟨⟨rfl,rfl⟩,by omega,by rw[Au];omega,⟨rfl,rfl⟩,_,D1 hic,_,rfl,_,_,_,_,_,_,_,_,c2,?_⟩;generalize (AN e n.kids[i-1] (d+1)).1=nx at l5 hok sh h4 hlf |-;generalize CP (AN e n.kids[i-1] (d+1)).2 n.kids[i-1]=e2 at d1 d2 |-;have sa:Shp nx:=sh;have sb:Shp kid:=hk;have fa:=sa.fits;have fb:=sb.fits;have hab:nx.leaf=kid.leaf:=hlf;have hx:kid.keys.length<nx.keys.length\/2<=kid.keys.length:=by omega
     refine Aa (λh=>by rw[hli]at h;cases h) (λ_=>?_);refine⟨⟨rfl,rfl⟩,by omega,by rw[Al];omega,⟨rfl,rfl⟩,_,A0 hlk,_,rfl,?_⟩;have gj:=AB0 nx n.keys[i-1] kid fa fb;have gk:((n.keys[i-1]?).getD Ar)=n.keys[i-1]:=by rw[gI hlk];rfl
     have ge:=ACE nx n.keys[i-1] kid sa sb hab hx;have fj:=Mz n.keys[i-1] sa sb;have even:¬(Ay nx/\Ay kid/\Ay (Av nx n.keys[i-1] kid)/\(Av nx n.keys[i-1] kid).keys.length<=8) ->
         DZ e2 n (i-1) nx kid=(Rf n (i-1) (Ao e2 (Et (Av nx n.keys[i-1] kid) (A3 nx kid))).1 (U0 (Av nx n.keys[i-1] kid) (A3 nx kid)) (Ao (Ao e2 (Et (Av nx n.keys[i-1] kid) (A3 nx kid))).2 (Gh (Av nx n.keys[i-1] kid) (A3 nx kid))).1,(Ao (Ao e2 (Et (Av nx n.keys[i-1] kid) (A3 nx kid))).2 (Gh (Av nx n.keys[i-1] kid) (A3 nx kid))).2):=λh=>by
       unfold DZ
       dsimp only
       rw[gk,if_neg h]
     have s1:=Vo e2 v (λ_=>d1.right) (Et (Av nx n.keys[i-1] kid) (A3 nx kid)) (IH fj _).1;have s2:=Vo (Ao e2 (Et (Av nx n.keys[i-1] kid) (A3 nx kid))).2 v (λ_=>(BG d1).1.right) (Gh (Av nx n.keys[i-1] kid) (A3 nx kid)) (IH fj _).2;have sj:=Vo e2 v (λ_=>d1.right) (Av nx n.keys[i-1] kid) fj.1;rw[KT]at ge;by_cases hj:Ay nx/\Ay kid/\nx.leaf=kid.leaf/\Ay (Av nx n.keys[i-1] kid)
     ·rw[I6,if_pos hj]at gj;refine⟨_,_,_,_,_,gj,Aa (λ_=>?_) (λh=>by simp at h)⟩;refine Ab (λh8=>?_) (λh8=>?_)
      ·have h8:(Av nx n.keys[i-1] kid).keys.length<=8:=by rw[Al]at h8;omega
       have ej:DZ e2 n (i-1) nx kid=(UL n (i-1) (Ao e2 (Av nx n.keys[i-1] kid)).1,(Ao e2 (Av nx n.keys[i-1] kid)).2):=by unfold DZ;dsimp only;rw[gk,if_pos ⟨hj.1,hj.2.1,hj.2.2.2,h8⟩]
       rw[ej];generalize Ao e2 (Av nx n.keys[i-1] kid)=q at sj |-;rw[show wI (((i-1:Nat):Int)+1)=((i-1+1:Nat):Int) by rw[Ac _ (by omega)];omega,show wI (((i-1:Nat):Int)+2)=((i-1+1+1:Nat):Int) by rw[Ac _ (by omega)];omega];refine⟨_,_,_,_,_,_,_,_,_,sj,⟨rfl,rfl⟩,by omega,by rw[Au];omega,⟨⟨⟨rfl,rfl⟩,rfl⟩,rfl⟩,by rw[Au];omega,_,Uw n.keys (i-1) hlk rfl,_,iJ (n.kids.set (i-1) q.1) (i-1+1) (by rw[List.length_set];omega) (congrArg (λz=>some (Ob.row false false 0 3 1 z)) (DX n.kids (i-1) q.1)),rfl,rfl,?_⟩;refine⟨?_,_,_,_,_,_,rfl⟩;rw[UL,CO,Tb (by omega)];rfl
      ·have h8:¬(Av nx n.keys[i-1] kid).keys.length<=8:=by rw[Al]at h8;omega
       rw[even λh=>h8 h.2.2.2];generalize Ao e2 (Et (Av nx n.keys[i-1] kid) (A3 nx kid))=q at s1 s2 |-;generalize Ao q.2 (Gh (Av nx n.keys[i-1] kid) (A3 nx kid))=q2 at s2 |-;rw[show wI (((i-1:Nat):Int)+1)=((i-1+1:Nat):Int) by rw[Ac _ (by omega)];omega];refine⟨⟨rfl,rfl⟩,by omega,by rw[Al];omega,⟨rfl,rfl⟩,_,A0 hlk,_,rfl,_,_,_,_,_,_,_,_,_,ge,_,_,_,_,_,_,_,_,_,s1,⟨rfl,rfl⟩,by omega,by rw[Au];omega,⟨⟨⟨rfl,rfl⟩,rfl⟩,rfl⟩,by rw[Au];omega,_,_,_,_,_,_,_,_,_,s2,⟨rfl,rfl⟩,by omega,by rw[List.length_set,Au];omega,⟨⟨⟨rfl,rfl⟩,rfl⟩,rfl⟩,by rw[List.length_set,Au];omega,⟨rfl,rfl⟩,by omega,by rw[Al];omega,⟨⟨⟨rfl,rfl⟩,rfl⟩,rfl⟩,by rw[Al];omega,rfl,rfl,?_⟩;refine⟨?_,_,_,_,_,_,rfl⟩;rw[show Int.toNat ((i-1+1:Nat):Int)=i-1+1 from rfl,show Int.toNat ((i-1:Nat):Int)=i-1 from rfl,DX,DX,EU,Rf,CO,KN (by omega),E6 (by omega)]
     ·rw[I6,if_neg hj]at gj;refine⟨_,_,_,_,_,gj,Aa (λh=>by simp at h) (λ_=>?_)⟩;rw[even λh=>hj ⟨h.1,h.2.1,hab,h.2.2.1⟩];generalize Ao e2 (Et (Av nx n.keys[i-1] kid) (A3 nx kid))=q at s1 s2 |-;generalize Ao q.2 (Gh (Av nx n.keys[i-1] kid) (A3 nx kid))=q2 at s2 |-;rw[show wI (((i-1:Nat):Int)+1)=((i-1+1:Nat):Int) by rw[Ac _ (by omega)];omega];refine⟨⟨rfl,rfl⟩,by omega,by rw[Al];omega,⟨rfl,rfl⟩,_,A0 hlk,_,rfl,_,_,_,_,_,_,_,_,_,ge,_,_,_,_,_,_,_,_,_,s1,⟨rfl,rfl⟩,by omega,by rw[Au];omega,⟨⟨⟨rfl,rfl⟩,rfl⟩,rfl⟩,by rw[Au];omega,_,_,_,_,_,_,_,_,_,s2,⟨rfl,rfl⟩,by omega,by rw[List.length_set,Au];omega,⟨⟨⟨rfl,rfl⟩,rfl⟩,rfl⟩,by rw[List.length_set,Au];omega,⟨rfl,rfl⟩,by omega,by rw[Al];omega,⟨⟨⟨rfl,rfl⟩,rfl⟩,rfl⟩,by rw[Al];omega,rfl,rfl,?_⟩;refine⟨?_,_,_,_,_,_,rfl⟩;rw[show Int.toNat ((i-1+1:Nat):Int)=i-1+1 from rfl,show Int.toNat ((i-1:Nat):Int)=i-1 from rfl,DX,DX,EU,Rf,CO,KN (by omega),E6 (by omega)]
 obtain⟨r,H',h,rfl,fz,a,b,K,C,rfl⟩:=main
 exact⟨fz,a,b,K,C,h⟩
theorem Qj {e:Ed}{n a b:Nd}{l:Nat}(hn:Shp n)(hnl:n.leaf=false)(hl:l<n.keys.length):Shp (DZ e n l a b).1:=by
 have h8:=hn.1;obtain⟨h1,h2⟩:=hn.inner hnl;unfold DZ;dsimp only;split;·refine⟨?_,.inr ⟨hnl,h1,?_⟩⟩<;>(unfold UL;dsimp only;simp only[List.length_append,List.length_take,List.length_drop,List.length_cons];omega)
 ·refine⟨?_,.inr ⟨hnl,h1,?_⟩⟩<;>(unfold Rf;dsimp only;simp only[List.length_append,List.length_take,List.length_drop,List.length_cons];omega)
theorem X3 {w0:Wd}{e:Ed}{n kid:Nd}{i:Nat}{d:Int}(hI:Inv w0 e)(hn:Shp n)(hnl:n.leaf=false)(hnk:1<=n.keys.length)(hi:i<=n.keys.length)(hb:(F1 e n i kid d).2.bad=0):Shp (F1 e n i kid d).1:=by
 unfold F1 at hb |-;dsimp only at hb |-;generalize ((n.kids[if i-1=i then i+1 else i-1]?).getD 0)=blk at hb |-;by_cases hc:(AN e blk (d+1)).2.bad≠0\/(AN e blk (d+1)).1.leaf≠kid.leaf;·rw[if_pos hc]at hb;exact absurd hb (PF (DS (b:=blk) (d:=d+1) hI).1).2
 ·rw[if_neg hc];split;·exact Qj hn hnl (by omega)
  ·exact Qj hn hnl (by omega)
theorem fT {n:Nd}{i:Nat}(hn:Shp n)(hl:n.leaf=true)(hi:i<n.keys.length):Shp (fO n i):=by have h8:=hn.1;obtain⟨h1,h2⟩:=hn.leaf hl;refine⟨?_,.inl ⟨hl,?_,h2⟩⟩<;>(unfold fO GJ;dsimp only;simp only[List.length_append,List.length_take,List.length_drop];omega)
set_option maxHeartbeats 4000000 in
theorem p90 {w0:Wd}(key:bA):∀(f:Nat) (e:Ed) (v:Nat) (b d:Int),d+f=10->1<=d->1<=f->Inv w0 e ->
   Runs Az 90 [.ptr 4900504 0,aI b,aI d] (hP key e v) (CO (Hw key f e b d).1) (hP key (Hw key f e b d).2 v)/\((Hw key f e b d).2.bad=0->Shp (Hw key f e b d).1)
 | 0,e,v,b,d,_,_,h,_=>absurd h (by omega)
 | f+1,e,v,b,d,hd,h1,_,hI=>by
   have c1:=dT e v hI.right b d
   obtain⟨l1,l2⟩:=DS (b:=b) (d:=d) hI
   rw[Hw]
   dsimp only
   by_cases hb:(AN e b d).2.bad=0
   · rw[if_neg (by simpa using hb)]
     obtain⟨l3,l4,l5,l6⟩:=l2 hb
     have hok:=D7 l5
     have hs:=hok.1
     have sh:=SS hs hok.2.1
     have hfit:=Ua hs
     obtain⟨k1,k2,k3⟩:=Hb hs
     obtain⟨d1,d2⟩:=En l1 hb (by rw[l4];exact l5)
     have c2:=eW (AN e b d).2 v l1.right b
     have hbf:((AN e b d).2.bad != 0)=false:=by simpa using hb
     generalize (AN e b d).1=n at c1 l5 hok hs sh hfit k1 k2 k3 |-
     generalize (AN e b d).2=e1 at c1 l1 hb hbf d1 d2 c2 |-
     have hd9:d<=8:=l6
     generalize CP e1 b=e2 at c2 d1 d2 |-
     -- what is to be shown, by the condition
     have go:∀ {r:Nd} {e':Ed},bE key (Bk e.w.base) (Bk e.w.now) v e.w.root e.w.gen e.bad (AK e.w.pages) b d (λr' H'=>r'=CO r/\H'=hP key e' v) ->
         Runs Az 90 [.ptr 4900504 0,.n (.int .i64 b),.n (.int .i64 d)] (hP key e v) (CO r) (hP key e' v):=λ{r e'} hV=>by
       refine De uX rfl (by kernel_rfl) ?_
       have:=iS key (Bk e.w.base) (Bk e.w.now) v e.w.root e.w.gen e.bad (AK e.w.pages) b d (λr' H'=>r'=CO r/\H'=hP key e' v)
       exact this▸hV
     cases hl:n.leaf with
     | true=>
       rw[if_pos rfl]
       have hsr:=G9 n.keys key
       obtain⟨v1,v2⟩:=FT hs hl
       have c3:=(lQ n key hfit hs).up C5
       by_cases ha:Gd n.keys key=true
       · rw[if_pos ha]
         have hsl:=iC ha
         refine⟨go ?_,λ_=>fT sh hl hsl⟩
         rw[(NM _ _ _ _ _ _ _ _ _ _ _).down]
         refine⟨_,_,_,_,_,_,_,_,_,_,_,_,c1,Aa (λh=>by rw[hbf]at h;cases h) (λ_=>⟨_,_,_,_,_,_,_,_,c2,Aa (λ_=>?_) (λh=>by rw[hl]at h;cases h)⟩)⟩
         refine⟨_,_,c3,Aa (λh=>by rw[ha]at h;cases h) (λ_=>?_)⟩
         exact⟨_,_,_,_,AFE n (CC n.keys key) hsl v2 (by omega),rfl,rfl⟩
       · rw[if_neg ha]
         have ha:Gd n.keys key=false:=by simpa using ha
         refine⟨go ?_,λh=>by cases h⟩
         rw[(NM _ _ _ _ _ _ _ _ _ _ _).down]
         refine⟨_,_,_,_,_,_,_,_,_,_,_,_,c1,Aa (λh=>by rw[hbf]at h;cases h) (λ_=>⟨_,_,_,_,_,_,_,_,c2,Aa (λ_=>?_) (λh=>by rw[hl]at h;cases h)⟩)⟩
         exact⟨_,_,c3,Aa (λ_=>⟨rfl,rfl⟩) (λh=>by rw[ha]at h;cases h)⟩
     | false=>
       rw[if_neg (by simp)]
       obtain⟨v1,v2⟩:=Em hs hl
       have hk:=Xf hs hl key
       have hki:=Tl hs.2.1 key
       have hkle:=LX n.keys key
       rw[hki]at hk
       have c3:=(gZ n key hfit hs hl).up C5
       rw[hki]at c3
       have hnk:1<=n.keys.length:=by
         rcases hs.2.2 with⟨h,_⟩|⟨_,_,h,_⟩
         · rw[hl]at h;cases h
         · exact h
       obtain⟨ih,ih2⟩:=p90 key f e2 v ((n.kids[Bl n.keys key]?).getD 0) (d+1) (by omega) (by omega) (by omega) d1
       have ri:=KK (key:=key) f e2 ((n.kids[Bl n.keys key]?).getD 0) (d+1) d1
       generalize hrr:Hw key f e2 ((n.kids[Bl n.keys key]?).getD 0) (d+1)=r at ih ih2 ri |-
       rw[gI hk,Option.getD_some]at ih
       obtain⟨kid,e3⟩:=r
       dsimp only at ih ih2 ri |-
       by_cases hb3:e3.bad=0
       · rw[if_neg (by simpa using hb3)]
         have hb3f:(e3.bad != 0)=false:=by simpa using hb3
         have i3:Inv w0 e3:=by
           rcases ri with h|h
           · omega
           · exact h.1
         have ks:=ih2 hb3
         obtain⟨q1,q2,q3⟩:=ks.lens
         by_cases h4:4<=kid.keys.length
         · rw[Sd,if_pos h4]
           have c4:=Vo e3 v (λ_=>i3.right) kid ks.fits
           refine⟨go ?_,λ_=>⟨sh.1,.inr ⟨hl,v1,by dsimp only;rw[List.length_set];exact v2⟩⟩⟩
           rw[(NM _ _ _ _ _ _ _ _ _ _ _).down]
           refine⟨_,_,_,_,_,_,_,_,_,_,_,_,c1,Aa (λh=>by rw[hbf]at h;cases h) (λ_=>⟨_,_,_,_,_,_,_,_,c2,Aa (λh=>by rw[hl]at h;cases h) (λ_=>?_)⟩)⟩
           rw[Ac (d+1) (by omega)]
           refine⟨_,c3,rfl,by omega,_,D1 hk,_,rfl,_,_,_,_,_,_,_,_,_,_,_,_,_,ih,Aa (λh=>by rw[hb3f]at h;cases h) (λ_=>?_)⟩
           refine⟨_,_,(((AR HB (AK n.keys) (by rw[Al];omega)).up Ea).up C5),_,_,AR XW (il n.kids) (by rw[Au];omega),Ab (λ_=>?_) (λh=>absurd (by rw[Al];omega) h)⟩
           refine⟨_,_,_,_,_,_,_,_,_,c4,⟨rfl,rfl⟩,by omega,by rw[Au];omega,⟨⟨⟨rfl,rfl⟩,rfl⟩,rfl⟩,by rw[Au];omega,rfl,rfl,?_,rfl⟩
           rw[show Int.toNat ((Bl n.keys key:Nat):Int)=Bl n.keys key from rfl,DX,hl];rfl
         · rw[Sd,if_neg h4]
           obtain⟨fz,a,b2,K,C,c4⟩:=AIN key e3 v i3 n sh hl hnk (Bl n.keys key) hkle kid ks (by omega) d ⟨h1,by omega⟩
           refine⟨go ?_,λh=>X3 i3 sh hl hnk hkle h⟩
           rw[(NM _ _ _ _ _ _ _ _ _ _ _).down]
           refine⟨_,_,_,_,_,_,_,_,_,_,_,_,c1,Aa (λh=>by rw[hbf]at h;cases h) (λ_=>⟨_,_,_,_,_,_,_,_,c2,Aa (λh=>by rw[hl]at h;cases h) (λ_=>?_)⟩)⟩
           rw[Ac (d+1) (by omega)]
           refine⟨_,c3,rfl,by omega,_,D1 hk,_,rfl,_,_,_,_,_,_,_,_,_,_,_,_,_,ih,Aa (λh=>by rw[hb3f]at h;cases h) (λ_=>?_)⟩
           refine⟨_,_,(((AR HB (AK n.keys) (by rw[Al];omega)).up Ea).up C5),_,_,AR XW (il n.kids) (by rw[Au];omega),Ab (λh=>absurd h (by rw[Al];omega)) (λ_=>?_)⟩
           exact⟨_,_,_,_,_,_,_,_,_,_,_,_,_,_,_,_,_,_,c4,rfl,rfl⟩
       · rw[if_pos hb3]
         have hb3f:(e3.bad != 0)=true:=by simpa using hb3
         refine⟨go ?_,λh=>absurd h hb3⟩
         rw[(NM _ _ _ _ _ _ _ _ _ _ _).down]
         refine⟨_,_,_,_,_,_,_,_,_,_,_,_,c1,Aa (λh=>by rw[hbf]at h;cases h) (λ_=>⟨_,_,_,_,_,_,_,_,c2,Aa (λh=>by rw[hl]at h;cases h) (λ_=>?_)⟩)⟩
         rw[Ac (d+1) (by omega)]
         exact⟨_,c3,rfl,by omega,_,D1 hk,_,rfl,_,_,_,_,_,_,_,_,_,_,_,_,_,ih,Aa (λ_=>⟨rfl,rfl⟩) (λh=>by rw[hb3f]at h;cases h)⟩
   · rw[if_pos hb]
     refine⟨?_,λh=>absurd h hb⟩
     refine De uX rfl (by kernel_rfl) ?_
     unfold hP hE Z6
     rw[iS,(NM _ _ _ _ _ _ _ _ _ _ _).down]
     exact⟨_,_,_,_,_,_,_,_,_,_,_,_,c1,Aa (λ_=>⟨rfl,rfl⟩) (λh=>absurd h (by simpa using hb))⟩
theorem p48 (key:bA):Runs Az 48 [.n (.str key)] [] (.n (.bool (decide (isKeyP key)))) []:=by
 refine Ag (c:=c48) rfl rfl ?_;rw[AFg,(AHK _ _).down];refine Ab (λh1=>?_) (λh1=>?_);·congr 2;rw[decide_eq_decide,isKeyP];omega
 ·rw[decide_eq_false (by unfold isKeyP;omega)]
theorem p49 (w:Wd)(hf:WFits w)(key:bA):Runs Az 49 [Dp w,aS key] [] (W5 (ED w key)) []:=by
 have g1:=(uN w hf).up C5;have g2:=p48 key;refine Ag (c:=c49) rfl rfl ?_;rw[Dp,AEP,(AHp _ _ _ _ _ _ _).down];refine⟨_,g1,?_⟩;by_cases hr:WRight w
 ·rw[decide_eq_true hr];refine Aa (λh=>by cases h) (λ_=>⟨_,g2,?_⟩);by_cases hp:isKeyP key
  ·rw[decide_eq_true hp];refine Aa (λh=>by cases h) (λ_=>?_);have hlen:w.pages.length<=100000:=by have:=hr.2.1;have:=hr.1.2.2.1;omega
   have hI:=Inv.start hr;rw[ED,if_neg (by simpa using⟨hr,hp⟩)];refine Aa (λh0=>?_) (λh0=>?_);·rw[if_pos (by simpa using h0)];rfl
   ·rw[if_neg (by simpa using h0)];obtain⟨c1,q1⟩:=p90 key 9 ⟨w,0⟩ 0 w.root 1 (by omega) (by omega) (by omega) hI;have ri:=KK (key:=key) 9 ⟨w,0⟩ w.root 1 hI;rw[Pf];generalize Hw key 9 ⟨w,0⟩ w.root 1=r at c1 q1 ri |-;obtain⟨n,e1⟩:=r;dsimp only at c1 q1 ri |-;refine⟨(),_,_,_,_,_,_,_,_,p86 w hlen,_,_,_,_,_,_,_,_,_,_,_,_,_,c1,Aa (λhb=>?_) (λhb=>?_)⟩
    ·have hb:e1.bad≠0:=by simpa using hb
     rw[if_pos hb,MR,if_pos (show(BP (0,e1)).bad≠0 from hb)];rfl
    ·have hb:e1.bad=0:=by simpa using hb
     rw[if_neg (by simpa using hb)];have sh:=q1 hb;have i1:Inv w e1:=by
      rcases ri with h|h;·omega
      ·exact h.1
     refine Ab (λhk=>?_) (λhk=>?_)
     ·have hk:n.keys≠[]:=by rw[Al]at hk;intro h;rw[h]at hk;simp at hk
      rw[if_pos hk];have c2:=Vo e1 0 (λ_=>i1.right) n sh.fits;have c3:=uT (BP (Ao e1 n)) 0;exact⟨_,_,_,_,_,_,_,_,_,c2,_,_,_,_,_,_,_,_,_,_,_,_,_,_,_,c3,rfl⟩
     ·have hk:n.keys=[]:=by rw[Al]at hk;exact List.length_eq_zero_iff.1 (by omega)
      rw[if_neg (by simpa using hk)];refine Aa (λhl=>?_) (λhl=>?_);·rw[if_pos hl];have c3:=uT (BP (0,e1)) 0;exact⟨_,_,_,_,_,_,_,_,_,_,_,_,_,_,_,c3,rfl⟩
      ·rw[if_neg (by rw[hl];simp)];obtain⟨s1,s2⟩:=sh.inner hl;have h0:0<n.kids.length:=by omega
       rw[gI h0,Option.getD_some];have c3:=uT (BP (n.kids[0],e1)) 0;exact⟨rfl,by decide,_,D1 h0,_,rfl,_,_,_,_,_,_,_,_,_,_,_,_,_,_,_,c3,rfl⟩
  ·rw[decide_eq_false hp];refine Aa (λ_=>?_) (λh=>by cases h);rw[ED,if_pos (λh=>hp h.2)];rfl
 ·rw[decide_eq_false hr];refine Aa (λ_=>?_) (λh=>by cases h);rw[ED,if_pos (λh=>hr h.1)];rfl
theorem KY {w:Wd}{key val:bA}(h:(GW w key val).2=0):WRight (GW w key val).1:=by
 by_cases hc:WRight w/\isPair key val
 ·rcases XG hc.1 hc.2 with(e|e)|⟨x,e,hx,_⟩
  ·rw[e]at h;cases h
  ·rw[e]at h;cases h
  ·rw[e];exact hx
 ·rw[GW,if_pos hc]at h;cases h
theorem KX {w:Wd}{key:bA}(h:(ED w key).2=0):WRight (ED w key).1:=by
 by_cases hc:WRight w/\isKeyP key
 ·rcases Xs hc.1 hc.2 with(e|e|e)|⟨x,e,hx,_⟩
  ·rw[e]at h;cases h
  ·rw[e]at h;cases h
  ·rw[e]at h;cases h
  ·rw[e];exact hx
 ·rw[ED,if_pos hc]at h;cases h
theorem VS {w:Wd}{c:Chg}(hw:WRight w)(h:(GQ w c).2=0):WRight (GQ w c).1:=by
 unfold GQ at h |-;split;·rename_i hc;rw[if_pos hc]at h;exact KY h
 ·rename_i hc;rw[if_neg hc]at h;split;·exact hw
  ·rename_i hk;rw[if_neg hk]at h;split;·exact hw
   ·rename_i h8;rw[if_neg h8]at h;exact KX h
abbrev wT:=List D×List D×List D×Int×Int×Unit
def wdC (w:Wd):wT:=(Bk w.base,Bk w.now,AK w.pages,w.root,w.gen,())
theorem Ql {α:Type}{l:List α}{i:Nat}(h:i<l.length):l.drop i=l[i]::l.drop (i+1):=List.drop_eq_getElem_cons h
def NS (l:List Chg):List Mir.D:=l.map λc => .rcd [.str c.key,.str c.val,.bool c.gone]
theorem Ue (l:List Chg):(NS l).length=l.length:=by simp[NS]
theorem sF {l:List Chg}{i:Nat}(h:i<l.length):(NS l)[i]?=some (.rcd [.str l[i].key,.str l[i].val,.bool l[i].gone]):=by simp[NS,h]
theorem p11 (w:Wd)(hf:WFits w)(l:List Chg)(hl:Small l.length):Runs Az 11 [Dp w,.o (.sl 3 (NS l))] [] (W5 (EY GQ w l)) []:=by
 have g1:=(uN w hf).up C5;refine Ag (c:=c11) rfl rfl ?_;rw[Dp,AE9,(AGI _ _ _ _ _ _ _).down,Ue l];refine⟨_,g1,?_⟩;by_cases hr:WRight w
 ·rw[decide_eq_true hr,EY,if_neg (by simpa using hr)];refine Aa (λh=>by cases h) (λ_=>?_);refine⟨λi q _=>0<=i/\i<=l.length/\∃w',q=wdC w'/\WRight w'/\F0 GQ w l=F0 GQ w' (l.drop i.toNat),λi _ _=>(l.length-i).toNat,⟨rfl,by omega,by omega,w,rfl,hr,rfl⟩,?_⟩;rintro i q z ⟨h0,h1,w',rfl,hr',hq⟩ _;refine Ab (λhlt=>?_) (λhge=>?_)
  ·have hi:i.toNat<l.length:=by omega
   have stay:∀ {w2:Wd},WRight w2->GQ w' l[i.toNat]=(w2,0)->0<=i+1/\i+1<=(l.length:Int)/\∃w3,wdC w2=wdC w3/\WRight w3/\F0 GQ w l=F0 GQ w3 (l.drop (i+1).toNat):=λ{w2} h2 he=>by refine⟨by omega,by omega,w2,rfl,h2,?_⟩;rw[hq,Ql hi,F0,he,if_neg (by simp),show(i+1).toNat=i.toNat+1 by omega]
   have stop:∀ {e:Int} {w2:Wd},GQ w' l[i.toNat]=(w2,e)->e≠0->F0 GQ w l=(wd0,e):=λ{e w2} he h0=>by rw[hq,Ql hi,F0,he,if_pos h0]
   refine⟨rfl,h0,_,sF hi,_,_,_,rfl,by simp[D.cells],?_⟩;generalize l[i.toNat]=c at stay stop;refine Aa (λhg=>?_) (λhg=>?_)
   ·have hg:c.gone=false:=by simpa using hg
    have e:GQ w' c=GW w' c.key c.val:=by rw[GQ,if_pos hg]
    refine⟨_,_,_,_,_,_,p47 w' (D8 hr') c.key c.val,Aa (λhb=>?_) (λhb=>?_)⟩
    ·have hb:(GW w' c.key c.val).2≠0:=by simpa using hb
     rw[stop (e:=(GW w' c.key c.val).2) (w2:=(GW w' c.key c.val).1) e hb];rfl
    ·have hb:(GW w' c.key c.val).2=0:=by simpa using hb
     repeat (refine And.intro rfl ?_)
     rw[Ac _ (by omega)];exact⟨stay (KY hb) (e.trans (Prod.ext rfl hb)),by first|omega|(dsimp only;omega)⟩
   ·have hg:c.gone≠false:=by simpa using hg
    refine⟨_,p48 c.key,?_⟩;by_cases hp:isKeyP c.key
    ·rw[decide_eq_true hp];refine Aa (λh=>by cases h) (λ_=>?_);have ev:(c.val.toList==(ByteArray.mk (List.toArray [])).toList)=decide (c.val=Ar):=Dn c.val Ar;rw[ev];by_cases hv:c.val=Ar
     ·rw[decide_eq_true hv];refine Aa (λh=>by cases h) (λ_=>?_);have e:GQ w' c=if (ED w' c.key).2=80 then (w',0) else ED w' c.key:=by rw[GQ,if_neg hg,if_neg (λh=>h.elim (λh=>h hp) (λh=>h hv))]
      refine⟨_,_,_,_,_,_,p49 w' (D8 hr') c.key,Aa (λh8=>?_) (λh8=>?_)⟩
      ·have h8:(ED w' c.key).2=80:=by simpa using h8
       rw[if_pos h8]at e;repeat (refine And.intro rfl ?_)
       rw[Ac _ (by omega)];exact⟨stay hr' e,by first|omega|(dsimp only;omega)⟩
      ·have h8:(ED w' c.key).2≠80:=by simpa using h8
       rw[if_neg h8]at e;refine Aa (λhb=>?_) (λhb=>?_)
       ·have hb:(ED w' c.key).2≠0:=by simpa using hb
        rw[stop (e:=(ED w' c.key).2) (w2:=(ED w' c.key).1) e hb];rfl
       ·have hb:(ED w' c.key).2=0:=by simpa using hb
        repeat (refine And.intro rfl ?_)
        rw[Ac _ (by omega)];exact⟨stay (KX hb) (e.trans (Prod.ext rfl hb)),by first|omega|(dsimp only;omega)⟩
     ·rw[decide_eq_false hv];refine Aa (λ_=>?_) (λh=>by cases h);rw[stop (e:=1) (w2:=w') (by rw[GQ,if_neg hg,if_pos (.inr hv)]) (by decide)];rfl
    ·rw[decide_eq_false hp];refine Aa (λ_=>?_) (λh=>by cases h);rw[stop (e:=1) (w2:=w') (by rw[GQ,if_neg hg,if_pos (.inl hp)]) (by decide)];rfl
  ·rw[List.drop_eq_nil_of_le (by omega),F0]at hq;rw[hq];rfl
 ·rw[decide_eq_false hr,EY,if_pos hr];exact Aa (λ_=>rfl) (λh=>by cases h)
end Go.Proofs.YtjmpnbbeplgchabGreatDoor.M
