import Derived.Test.YtegndijbpiccgaaGreatDoorR5QW10
namespace Go.Proofs.YtegndijbpiccgaaGreatDoor.M
set_option linter.unusedVariables false
set_option linter.unusedSimpArgs false
open Go Go.Mir
theorem p10 (n:Int)(ts:List (List Chg))(lst:List Chg)(L:Int)(hL:Dj L)(ms:List Int):Runs EM 10 [.agg [aI n,aL (Tf ts),.o (.sl 3 (Lu lst))],aI L,aL (ml ms)] [] (aB true) []:=by
 obtain⟨b,f,last,md,g1⟩:=p28 n ts lst;obtain⟨h,P,B,h',P',B',d,m⟩:=md.ex;rw[lJ,Db,Db,CO]at g1;have g2:=(sH ⟨b,[],L⟩ last (Bi d.rt) (Cv m.wr) hL).up MH;refine An (c:=c10) rfl rfl ?_;rw[AC9,(AEl _ _ _ _ _ _).down];refine⟨_,_,_,_,_,_,_,_,_,_,_,_,_,_,_,_,_,_,_,_,_,_,_,_,_,g1,L6 ⟨_,Z6,L6 ?_⟩⟩;rcases md.com d m L with⟨_,h60⟩|⟨block,hff,c⟩
 ·rw[h60,Ru,EG,EG,Db,Db]at g2;exact⟨_,_,_,_,_,_,_,_,_,_,_,_,_,_,_,g2,Ik rfl rfl⟩
 ·obtain⟨hrt,hc⟩:=c.crash d d.rt FT;have hm:=hc (mk false ms);generalize hS:CommitR ⟨b,[],L⟩ last=S at *;obtain⟨⟨cb,cp,cl⟩,cf,ce⟩:=S;dsimp only at hrt hm;rw[Ru,EG,EG,Db,Db]at g2;have g3:=((((p32 cb cp ms (Bi hrt)).up E4).up DL).up Kf).up MH;rw[OM,if_pos hrt,CO,CO]at g3;generalize hX:D7 (mk false ms) cb cp cp.length=x at *;obtain⟨va,vb,g5⟩:=t31 d.wr d.tree;obtain⟨wa,wb,g6⟩:=t31 m.wr m.tree;have e0:=md.su;have gm:=d.gmax;refine⟨_,_,_,_,_,_,_,_,_,_,_,_,_,_,_,g2,?_⟩;rcases hm.2 with⟨he,dk⟩|⟨he,dk,hr⟩
  ·have g4:=(sO x [] (Bi dk.rt)).up MH;rw[dk.mount,iG,Db,CO]at g4;obtain⟨xa,xb,g7⟩:=t31 dk.wright dk.treeM;refine GP (show ce≠60 by omega) (GP (show ce≠1 by omega) ⟨_,_,_,g3,_,_,_,_,_,_,_,_,_,_,_,_,g4,BU rfl (BU rfl ⟨(),_,_,_,_,_,_,_,_,g5,(),_,_,_,_,_,_,_,_,g6,(),_,_,_,_,_,_,_,_,g7,Ik rfl (Ik he ?_)⟩)⟩);rw[show(Dk.mt x f).su=f.su from rfl,Si];exact dG ⟨rfl,rfl,_,XW d.wr d.tree,rfl⟩
  ·have g4:=(sO x [] (Bi dk.rt)).up MH;rw[dk.mount,iG,Db,CO]at g4;obtain⟨xa,xb,g7⟩:=t31 dk.wright dk.treeM;have hg1:(nwFd last block).su.g=f.su.g+1:=m.gen;have wg:w6 (f.su.g+1)=f.su.g+1:=Ad _ (by omega);have hb2:blk x 2=empS:=by have:=hr 2 (by decide) (by decide);rw[Dz (λw hw=>by cases hw)]at this;rw[show(2:Int)=((2:Nat):Int) from rfl,this];exact md.ring 2 (by decide) (by decide)
   have hring:(Dk.mt x (nwFd last block)).ring=[]:=LQ (by have:=dk.n24;omega) hb2;rw[hring]at g4;refine GP (show ce≠60 by omega) (GP (show ce≠1 by omega) ⟨_,_,_,g3,_,_,_,_,_,_,_,_,_,_,_,_,g4,BU rfl (BU rfl ⟨(),_,_,_,_,_,_,_,_,g5,(),_,_,_,_,_,_,_,_,g6,(),_,_,_,_,_,_,_,_,g7,GP (show(nwFd last block).su.g≠f.su.g by omega) (Ik (show(nwFd last block).su.g=_ by rw[wg];exact hg1) ⟨rfl,rfl,_,XW m.wr m.tree,dG rfl⟩)⟩)⟩)
theorem dJ (x:(Mir.Ty.sl (.int .i64)).T):(Mir.Ty.sl (.int .i64)).av x = aL (ml (show List Int from x)):=rfl
theorem p10x (x:plT.T)(a:Int)(ha:(Lit.int .i64 a).wf=true)(ms:(Mir.Ty.sl (.int .i64)).T):Runs EM 10 [plT.av x,aI a,(Mir.Ty.sl (.int .i64)).av ms] [] (aB true) []:=by rw[Ue,dJ];exact p10 _ _ _ a (AEA ha) _
end Go.Proofs.YtegndijbpiccgaaGreatDoor.M
