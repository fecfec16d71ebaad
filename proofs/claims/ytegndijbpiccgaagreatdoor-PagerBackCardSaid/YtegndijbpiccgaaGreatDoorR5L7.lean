import Derived.Test.YtegndijbpiccgaaGreatDoorR5QW7
namespace Go.Proofs.YtegndijbpiccgaaGreatDoor.M
set_option linter.unusedVariables false
set_option linter.unusedSimpArgs false
open Go Go.Mir
theorem p7 (n:Int)(ts:List (List Chg))(lst:List Chg):Runs EM 7 [.agg [aI n,aL (Tf ts),.o (.sl 3 (Lu lst))]] [] (aB true) []:=by
 obtain⟨b,f,last,md,g1⟩:=p28 n ts lst;obtain⟨h,P,B,h',P',B',d,m⟩:=md.ex;rw[lJ,Db,Db,CO]at g1;have g2:=(sH ⟨b,[],-1⟩ last (Bi d.rt) (Cv m.wr) (by show Dj (-1);unfold Dj;omega)).up MH;refine An (c:=c7) rfl rfl ?_;rw[vc7,(V7e _ _ _ _).down];refine⟨_,_,_,_,_,_,_,_,_,_,_,_,_,_,_,_,_,_,_,_,_,_,_,_,_,g1,L6 ⟨_,Z6,L6 ?_⟩⟩;rcases md.com d m (-1) with⟨_,h60⟩|⟨block,_,c⟩
 ·rw[h60,Ru,EG,EG,Db,Db]at g2;refine⟨_,_,_,_,_,_,_,_,_,_,_,_,_,_,_,g2,RG (by decide) (Ik rfl ?_)⟩;rw[md.su,Si]
 ·have ce:=c.eq;rw[if_pos (.inl (by decide)),Ot]at ce;rw[ce,Ru,EG,EG,Db,Db]at g2;have g3:=(sO (b2Of b [] last block) [] (Bi c.dk.rt)).up MH;rw[c.dk.mount,iG,Db,CO]at g3;have hu:=c.dk.page' (c.blank md.ring 2 (by decide) (by decide)) rfl;have wm:=Cv c.dk.wright;have wn:=Cv c.dk.wr;have pm:(Dk.mt (b2Of b [] last block) (nwFd last block)).wd.pages.length<=100000:=by show(Gp _ _).length<=_;rw[DE];have:=c.dk.len;have:=c.dk.n24;omega
  have pn:(nwFd last block).wd.pages.length<=100000:=by have:=c.dk.wr.2.1;have:=c.dk.len;have:=c.dk.n24;omega
  have g4:=(p29 (Dk.mt (b2Of b [] last block) (nwFd last block)) pm).up MH;have g5:=(p29 (nwFd last block) pn).up MH;have g6:=(p18 (aJ (nwFd last block)) (YD wn) (by show(([]:List bA).length:Int)<=_;decide)).up MH;rw[hu]at g4;rw[Db,Db]at g4 g5;rw[Db]at g6;obtain⟨va,vb,g7⟩:=t31 c.dk.wright c.dk.treeM;obtain⟨wa,wb,g8⟩:=t31 m.wr m.tree;refine⟨_,_,_,_,_,_,_,_,_,_,_,_,_,_,_,g2,BU rfl ⟨_,_,_,_,_,_,_,_,_,_,_,_,g3,Ik rfl ⟨_,_,_,_,_,_,_,_,_,_,_,g4,_,_,_,_,_,_,_,_,_,_,_,g5,_,g6,dG ⟨(),_,_,_,_,_,_,_,_,g7,(),_,_,_,_,_,_,_,_,g8,rfl,rfl,_,XW m.wr m.tree,rfl⟩⟩⟩⟩
theorem p7x (x:plT.T):Runs EM 7 [plT.av x] [] (aB true) []:=by rw[Ue];exact p7 _ _ _
end Go.Proofs.YtegndijbpiccgaaGreatDoor.M
