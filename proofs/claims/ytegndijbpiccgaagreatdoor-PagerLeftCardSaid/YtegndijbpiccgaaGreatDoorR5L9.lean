import Derived.Test.YtegndijbpiccgaaGreatDoorR5QW9
namespace Go.Proofs.YtegndijbpiccgaaGreatDoor.M
set_option linter.unusedVariables false
set_option linter.unusedSimpArgs false
open Go Go.Mir
theorem ZX (b:List bA)(p:List Wr)(g:Fnd)(block:Nat):1<=(wrA b p g block).length:=by rw[wrA,List.length_append,List.length_singleton];omega
theorem eT (a t:Int)(h0:1<=t)(h1:t<=10000):0<=w6 (t-w6 (Int.tmod (w6 (Int.tmod a t+t)) t+1))/\w6 (t-w6 (Int.tmod (w6 (Int.tmod a t+t)) t+1))<t:=by have e1 : -t<Int.tmod a t:=Int.lt_tmod_of_pos a (by omega);have e2:Int.tmod a t<t:=Int.tmod_lt_of_pos a (by omega);have w1:w6 (Int.tmod a t+t)=Int.tmod a t+t:=Ad _ (by omega);rw[w1];have e3:0<=Int.tmod (Int.tmod a t+t) t:=Int.tmod_nonneg t (by omega);have e4:Int.tmod (Int.tmod a t+t) t<t:=Int.tmod_lt_of_pos _ (by omega);have w2:w6 (Int.tmod (Int.tmod a t+t) t+1)=Int.tmod (Int.tmod a t+t) t+1:=Ad _ (by omega);rw[w2];have w3:w6 (t-(Int.tmod (Int.tmod a t+t) t+1))=t-(Int.tmod (Int.tmod a t+t) t+1):=Ad _ (by omega);rw[w3];omega
theorem p9 (n:Int)(ts:List (List Chg))(lst:List Chg)(a:Int):Runs EM 9 [.agg [aI n,aL (Tf ts),.o (.sl 3 (Lu lst))],aI a] [] (aB true) []:=by
 obtain⟨b,f,last,md,g1⟩:=p28 n ts lst;obtain⟨h,P,B,h',P',B',d,m⟩:=md.ex;rw[lJ,Db,Db,CO]at g1;have g0:∀L:Int,Dj L->Runs EM 24 [EG ⟨b,[],L⟩,Db last] [] (Ru (CommitR ⟨b,[],L⟩ last)) []:=λL hL=>(sH ⟨b,[],L⟩ last (Bi d.rt) (Cv m.wr) hL).up MH;have g2:=g0 1048576 (by unfold Dj;omega);refine An (c:=c9) rfl rfl ?_;rw[vc9,(V9e _ _ _ _ _).down];refine⟨_,_,_,_,_,_,_,_,_,_,_,_,_,_,_,_,_,_,_,_,_,_,_,_,_,g1,L6 ⟨_,Z6,L6 ?_⟩⟩;rcases md.com d m 1048576 with⟨_,h60⟩|⟨block,hff,c⟩
 ·rw[h60,Ru,EG,EG,Db,Db]at g2;exact⟨_,_,_,_,_,_,_,_,_,_,_,_,_,_,_,g2,RG (by decide) rfl⟩
 ·have few:=md.few;have hlen:=c.len;have pos:=ZX b [] last block;have same:∀L:Int,Cm b [] L f last h P B h' P' B' block:=λL=>by
   rcases md.com d m L with⟨h2,_⟩|⟨k,h2,c'⟩
   ·rw[hff]at h2;cases h2
   ·rw[hff]at h2;obtain rfl:=Option.some.inj h2;exact c'
  have ce:=c.eq;rw[if_pos (.inr (by omega))]at ce;have k1:dnN 1048576 ((wrA b [] last block).length+3)=1048576-((wrA b [] last block).length+3:Nat):=by unfold dnN;rw[if_neg (by decide)]
  rw[k1]at ce;rw[ce,Ru,EG,EG,Db,Db]at g2;have took:w6 (1048576-(1048576-((wrA b [] last block).length+3:Nat)))=((wrA b [] last block).length+3:Nat):=by rw[Ad _ (by omega)];omega
  have lr:=eT a (((wrA b [] last block).length+3:Nat):Int) (by omega) (by omega);have c2:=(same (((wrA b [] last block).length+3:Nat):Int)).eq;rw[if_pos (.inr (by omega))]at c2;have k2:dnN (((wrA b [] last block).length+3:Nat):Int) ((wrA b [] last block).length+3)=0:=by unfold dnN;rw[if_neg (by omega)];omega
  rw[k2]at c2;have g3:=g0 (((wrA b [] last block).length+3:Nat):Int) (by unfold Dj;omega);rw[c2,Ru,EG,EG,Db,Db]at g3;have hd:=Bi c.dk.rt;have g4:=((((p13 (b2Of b [] last block) [] (b2Of b [] last block) [] hd hd).up E4).up DL).up Kf).up MH;rw[aM,CO]at g4;have g5:=(p18 (nwFd last block) (Cv c.dk.wr) (by show(([]:List bA).length:Int)<=_;decide)).up MH;rw[Db]at g5;refine⟨_,_,_,_,_,_,_,_,_,_,_,_,_,_,_,g2,BU rfl ?_⟩;rw[took];generalize hT:(((wrA b [] last block).length+3:Nat):Int)=t at *;generalize hL:w6 (t-w6 (Int.tmod (w6 (Int.tmod a t+t)) t+1))=L at *;have g6:=g0 L (by unfold Dj;omega);have down:(CommitR ⟨b,[],L⟩ last).2.2=140:=by
   have c3:=(same L).eq;rw[if_neg (by omega)]at c3;rw[c3];split;·rfl
   ·split<;>rfl
  rw[Ru,EG,Db,Db,down]at g6;refine⟨_,_,_,_,_,_,_,_,_,_,_,_,_,_,_,g3,Ab (λhx=>by omega) (λ_=>BU rfl (BU rfl ⟨_,g4,L6 ⟨_,g5,L6 ⟨by omega,by omega,?_⟩⟩⟩))⟩;exact⟨_,_,_,_,_,_,_,_,_,_,_,_,_,_,_,g6,rfl⟩
theorem p9x (x:plT.T)(a:Int):Runs EM 9 [plT.av x,aI a] [] (aB true) []:=by rw[Ue];exact p9 _ _ _ a
end Go.Proofs.YtegndijbpiccgaaGreatDoor.M
