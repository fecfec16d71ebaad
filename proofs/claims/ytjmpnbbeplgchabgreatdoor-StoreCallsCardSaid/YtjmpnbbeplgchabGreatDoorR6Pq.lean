import Derived.Test.YtjmpnbbeplgchabGreatDoorR6Pn
namespace Go.Proofs.YtjmpnbbeplgchabGreatDoor.M
set_option linter.unusedVariables false
set_option linter.unusedSimpArgs false
open Go Go.Mir
theorem Yg (g:Int):(E0 Ar g).2.2≠0:=by obtain⟨e,he,h⟩:=QQ;rw[E0,show Ar=uM from rfl,h,Lo he];exact he
theorem XU {b:List bA}{g:Int}(hl:10<=b.length)(h:blk b 2=Ar):EH g 0 ((b.take 10).drop 2)=[]:=by
 have e:(b.take 10).drop 2=blk b 2::(b.take 10).drop 3:=by
  have h2:2<(b.take 10).length:=by rw[List.length_take];omega
  rw[List.drop_eq_getElem_cons h2];congr 1;rw[List.getElem_take,blk,show(2:Int).toNat=2 from rfl,gI (by omega)];rfl
 rw[e,h];exact Jj (.inl (Yg g))
theorem Ds (n:Nat):(Gf n).length=n:=by simp[Gf]
theorem N8 {n i:Nat}(h:i<n):tr (Gf n) i=decide (i<=10):=by simp[tr,Gf,h]
def Qw (n:Nat):Su:=⟨1,0,10,n⟩
def Fb (n:Nat):Fnd:=⟨Qw n,0,Ht (BS n) (Qw n) (Gf n),[]⟩
theorem Mh (n:Nat):(BS n).length=n:=by simp[BS]
theorem bF (n:Nat)(i:Int):blk (List.replicate n Ar) i=Ar:=by
 unfold blk;by_cases h:i.toNat<n;·rw[gI (by simpa using h)];simp
 ·rw[List.getElem?_eq_none (by simpa using h)];rfl
theorem Rw {n:Nat}(h:24<=n)(i:Nat):blk (BS n) i=if i=10 then mapP 1 (Gf n) else if i=0 then SuS (Qw n) else Ar:=by rw[BS,Pm (by simp;omega),Pm (by simp;omega),bF];rfl
theorem Rq {n:Nat}(h:24<=n)(h2:n<=2048):suOK (Qw n):=⟨by show(1:Int)<=1;decide,by show(1:Int)<=1099511627776;decide,by show(24:Int)<=n;omega,by show(n:Int)<=2048;omega,.inl rfl,by show(10:Int)<=10;decide,by show(10:Int)<n;omega,by show(10:Int)≠0;decide⟩
theorem T6 {n:Nat}(h2:n<=2048):pgOK 3 1 (packS (Gf n)):=KM (by decide) (by decide) (by rw[Ds];exact h2)
theorem tH {n:Nat}(h:24<=n)(h2:n<=2048):∀s∈BS n,Tm s=true:=by
 intro s hs;have e0:Tm Ar=true:=Ra (by decide +kernel) (by decide);rcases List.mem_or_eq_of_mem_set hs with hs|rfl
 ·rcases List.mem_or_eq_of_mem_set hs with hs|rfl;·rw[List.eq_of_mem_replicate hs];exact e0
  ·exact Ra (Qd _) (by have:=GX ⟨1,0,10,(n:Int)⟩;omega)
 ·exact Ra (JI _ _ _) (by have:=Fz (g:=1) (now:=Gf n) (by decide) (by decide) (by rw[Ds];exact h2);omega)
theorem Sl {n:Nat}(h:24<=n)(h2:n<=2048):Dk (BS n) (Fb n) 0 [] []:=by
 have hb:=Rw h;have hlen:=Mh n;have tms:=tH h h2;have hnow:(Fb n).wd.now=Gf n:=rfl;refine⟨XF ⟨by rw[hlen];omega,by rw[hlen];exact h2,by decide⟩ tms (λw hw=>by cases hw),Rq h h2,by rw[hlen];rfl,.inl rfl,hb 0,?_,?_,?_,by rw[hnow,Ds,hlen],rfl,rfl,rfl,.inl ⟨rfl,rfl,rfl,rfl⟩,by simp,?_,?_,?_⟩;·left;show(SGet (blk (BS n) (1-0))).2≠0;rw[show(1-0:Int)=((1:Nat):Int) by decide,hb 1,if_neg (by decide),if_neg (by decide)];exact XN
 ·show(blk (BS n) (1-0)).size<=512;rw[show(1-0:Int)=((1:Nat):Int) by decide,hb 1,if_neg (by decide),if_neg (by decide)];decide
 ·refine⟨⟨rfl,?_,?_,λj hj=>?_⟩,Hk _ _,by show(1:Int)<=1+1;decide,by show(1:Int)+1<=_;decide,.inl rfl,λs hs=>?_⟩;·rw[hnow,Ds];exact h
  ·rw[hnow,Ds];exact h2
  ·have:tr (Gf n) j=true:=by rw[N8 (by omega)];simp;omega
   exact⟨this,this⟩
  ·obtain⟨i,_,rfl⟩:=List.mem_map.1 hs;split
   ·cases hx:(BS n)[i]? with
    | none=>decide
    | some s=>exact(RS (tms s (List.mem_of_getElem? hx))).2
   ·decide
 ·intro i hi;rw[hnow,Ds]at hi;rw[hnow,N8 hi,decide_eq_decide];show _ ↔ _\/(i:Int)∈[(10:Int)];simp;omega
 ·intro i h10 hi ht;exact Dk.pgs_at (by omega) (by rw[Ds];rw[hlen]at hi;omega) ht
 ·refine⟨1,by decide,by show(1:Int)<=1;decide,?_⟩;show GetPR (blk (BS n) ((10:Nat):Int))=_;rw[hb 10,if_pos rfl];exact Hh (T6 h2)
theorem WY {n:Nat}(h:24<=n):∀i:Nat,2<=i->i<10->blk (BS n) i=Ar:=λi h2 h10=>by rw[Rw h,if_neg (by omega),if_neg (by omega)]
theorem PK {b:List bA}(h:∀s∈b,TrimS s=s)(now:List Bool):∀s∈IW b now,TrimS s=s:=by
 intro s hs;obtain⟨i,_,rfl⟩:=List.mem_map.1 hs;split
 ·cases hx:b[i]? with
  | none=>decide +kernel
  | some s=>exact h s (List.mem_of_getElem? hx)
 ·decide +kernel
end Go.Proofs.YtjmpnbbeplgchabGreatDoor.M
