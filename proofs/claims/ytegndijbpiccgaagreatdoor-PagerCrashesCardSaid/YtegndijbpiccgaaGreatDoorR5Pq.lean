import Derived.Test.YtegndijbpiccgaaGreatDoorR5Po
namespace Go.Proofs.YtegndijbpiccgaaGreatDoor.M
set_option linter.unusedVariables false
set_option linter.unusedSimpArgs false
open Go Go.Mir
theorem Zw (g:Int):(E8 empS g).2.2≠0:=by obtain⟨e,he,h⟩:=QA;rw[E8,show empS=sA from rfl,h,Mp he];exact he
theorem LQ {b:List bA}{g:Int}(hl:10<=b.length)(h:blk b 2=empS):Iq g 0 ((b.take 10).drop 2)=[]:=by
 have e:(b.take 10).drop 2=blk b 2::(b.take 10).drop 3:=by
  have h2:2<(b.take 10).length:=by rw[List.length_take];omega
  rw[List.drop_eq_getElem_cons h2];congr 1;rw[List.getElem_take,blk,show(2:Int).toNat=2 from rfl,gI (by omega)];rfl
 rw[e,h];exact JD (.inl (Zw g))
theorem D4 (n:Nat):(Hb n).length=n:=by simp[Hb]
theorem TT {n i:Nat}(h:i<n):tr (Hb n) i=decide (i<=10):=by simp[tr,Hb,h]
def Lt (n:Nat):Su:=⟨1,0,10,n⟩
def WT (n:Nat):Fnd:=⟨Lt n,0,G1 (Fa n) (Lt n) (Hb n),[]⟩
theorem Ma (n:Nat):(Fa n).length=n:=by simp[Fa]
theorem cG (n:Nat)(i:Int):blk (List.replicate n empS) i=empS:=by
 unfold blk;by_cases h:i.toNat<n;·rw[gI (by simpa using h)];simp
 ·rw[List.getElem?_eq_none (by simpa using h)];rfl
theorem QS {n:Nat}(h:24<=n)(i:Nat):blk (Fa n) i=if i=10 then Cz 1 (Hb n) else if i=0 then SuS (Lt n) else empS:=by rw[Fa,Od (by simp;omega),Od (by simp;omega),cG];rfl
theorem QW {n:Nat}(h:24<=n)(h2:n<=2048):suOK (Lt n):=⟨by show(1:Int)<=1;decide,by show(1:Int)<=1099511627776;decide,by show(24:Int)<=n;omega,by show(n:Int)<=2048;omega,.inl rfl,by show(10:Int)<=10;decide,by show(10:Int)<n;omega,by show(10:Int)≠0;decide⟩
theorem TO {n:Nat}(h2:n<=2048):pgOK 3 1 (packS (Hb n)):=Ky (by decide) (by decide) (by rw[D4];exact h2)
theorem XP {n:Nat}(h:24<=n)(h2:n<=2048):∀s∈Fa n,Tm s=true:=by
 intro s hs;have e0:Tm empS=true:=Q8 (by decide +kernel) (by decide);rcases List.mem_or_eq_of_mem_set hs with hs|rfl
 ·rcases List.mem_or_eq_of_mem_set hs with hs|rfl;·rw[List.eq_of_mem_replicate hs];exact e0
  ·exact Q8 (Ip _) (by have:=FO ⟨1,0,10,(n:Int)⟩;omega)
 ·exact Q8 (Hi _ _ _) (by have:=Hy (g:=1) (now:=Hb n) (by decide) (by decide) (by rw[D4];exact h2);omega)
theorem R5 {n:Nat}(h:24<=n)(h2:n<=2048):Dk (Fa n) (WT n) 0 [] []:=by
 have hb:=QS h;have hlen:=Ma n;have tms:=XP h h2;have hnow:(WT n).wd.now=Hb n:=rfl;refine⟨X2 ⟨by rw[hlen];omega,by rw[hlen];exact h2,by decide⟩ tms (λw hw=>by cases hw),QW h h2,by rw[hlen];rfl,.inl rfl,hb 0,?_,?_,?_,by rw[hnow,D4,hlen],rfl,rfl,rfl,.inl ⟨rfl,rfl,rfl,rfl⟩,by simp,?_,?_,?_⟩;·left;show(SGet (blk (Fa n) (1-0))).2≠0;rw[show(1-0:Int)=((1:Nat):Int) by decide,hb 1,if_neg (by decide),if_neg (by decide)];exact WG
 ·show(blk (Fa n) (1-0)).size<=512;rw[show(1-0:Int)=((1:Nat):Int) by decide,hb 1,if_neg (by decide),if_neg (by decide)];decide
 ·refine⟨⟨rfl,?_,?_,λj hj=>?_⟩,DE _ _,by show(1:Int)<=1+1;decide,by show(1:Int)+1<=_;decide,.inl rfl,λs hs=>?_⟩;·rw[hnow,D4];exact h
  ·rw[hnow,D4];exact h2
  ·have:tr (Hb n) j=true:=by rw[TT (by omega)];simp;omega
   exact⟨this,this⟩
  ·obtain⟨i,_,rfl⟩:=List.mem_map.1 hs;split
   ·cases hx:(Fa n)[i]? with
    | none=>decide
    | some s=>exact(Sv (tms s (List.mem_of_getElem? hx))).2
   ·decide
 ·intro i hi;rw[hnow,D4]at hi;rw[hnow,TT hi,decide_eq_decide];show _ ↔ _\/(i:Int)∈[(10:Int)];simp;omega
 ·intro i h10 hi ht;exact Dk.pgs_at (by omega) (by rw[D4];rw[hlen]at hi;omega) ht
 ·refine⟨1,by decide,by show(1:Int)<=1;decide,?_⟩;show GetPR (blk (Fa n) ((10:Nat):Int))=_;rw[hb 10,if_pos rfl];exact JR (TO h2)
theorem QT {n:Nat}(h:24<=n):∀i:Nat,2<=i->i<10->blk (Fa n) i=empS:=λi h2 h10=>by rw[QS h,if_neg (by omega),if_neg (by omega)]
theorem YT {b:List bA}(h:∀s∈b,TrimS s=s)(now:List Bool):∀s∈Gp b now,TrimS s=s:=by
 intro s hs;obtain⟨i,_,rfl⟩:=List.mem_map.1 hs;split
 ·cases hx:b[i]? with
  | none=>decide +kernel
  | some s=>exact h s (List.mem_of_getElem? hx)
 ·decide +kernel
theorem Dk.changes {b:List bA}{f:Fnd}{h:Nat}{P:List Pr}{B:List Int}(d:Dk b f h P B)(ht:∀s∈f.wd.pages,TrimS s=s){l:List Chg}:
   ((Cu E3 f.wd l).2=60\/((Cu E3 f.wd l).2=1/\∃c∈l,¬c.ok))\/((Cu E3 f.wd l).2=0/\(∀c∈l,c.ok)/\∃h' B',Mk f (Cu E3 f.wd l).1 h' (l.foldl chP P) B'):=by
 rcases O5 (l:=l) (From.start d.wr d.tree) with h1|⟨h1,h2,hr,h',B',ht',hn⟩
 ·exact .inl h1
 ·refine .inr ⟨h1,h2,h',B',?_⟩
  have hm:=d.mrg
  have hl:=d.len
  have hbs:=d.base
  have hmi:((f.su.m.toNat:Nat):Int)=f.su.m:=by omega
  have htm:tr f.wd.now f.su.m.toNat=true:=O9 d.now (by omega) (by omega)
  have hrg:=(IP d.wr d.tree).2
  have hmap:f.su.m∉B':=λhx=>by
   rcases hn.kept f.su.m.toNat (by omega) (by rw[hmi];exact hx) with e|e;·rw[hmi]at e;exact d.map e
   ·rw[htm]at e;cases e
  refine⟨hr,hn.base.trans hbs,hn.gen.trans d.gen,hn.nlen,ht',hmap,λi hi=>?_,λi h10 hti=>?_,hn.tidy ht⟩
  ·rw[hn.nlen]at hi
   rw[hn.now i hi,d.now i hi]
   by_cases hB:(i:Int)∈B
   ·have:=hrg _ hB
    have hne:¬(i:Int)=f.su.m:=λe=>d.map (e▸hB)
    by_cases hB':(i:Int)∈B'
    ·simp[hB,hB']
    ·have h10:¬i<10:=by omega
     simp[hB,hB',hne,h10]
   ·by_cases hB':(i:Int)∈B'
    ·simp[hB,hB']
    ·simp[hB,hB']
  ·have:=hn.page i (by omega) (by rw[hbs,Int.toNat_natCast];exact hti)
   exact this
structure Made (b:List bA) (f last:Fnd):Prop where
 ex:∃h P B h' P' B',Dk b f h P B/\Mk f last.wd h' P' B'
 tidy:∀s∈f.wd.pages,TrimS s=s
 ring:∀i:Nat,2<=i->i<10->blk b i=empS
 few:b.length<=80
 gen:f.su.g<=100
 su:last.su=f.su
 slot:last.slot=f.slot
 r1:f.ring=[]
 r2:last.ring=[]
end Go.Proofs.YtegndijbpiccgaaGreatDoor.M
