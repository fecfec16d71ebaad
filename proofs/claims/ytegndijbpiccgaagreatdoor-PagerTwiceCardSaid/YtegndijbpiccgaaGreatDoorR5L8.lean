import Derived.Test.YtegndijbpiccgaaGreatDoorR5QW8
namespace Go.Proofs.YtegndijbpiccgaaGreatDoor.M
set_option linter.unusedVariables false
set_option linter.unusedSimpArgs false
open Go Go.Mir
theorem Qy {w:Wd}{m:Int}{k:Nat}(hb:tr w.base k=false)(hn:tr w.now k=false)(hne:k≠m.toNat):AY (gave w m) k=true:=by
 unfold AY;have e:tr (gave w m).now k=false:=by show tr (w.now.set m.toNat false) k=false;unfold tr;rw[List.getElem?_set_ne (λh=>hne h.symm)];exact hn
 rw[show(gave w m).base=w.base from rfl,hb,e];rfl
theorem Cm.room {b:List bA}{L:Int}{f g:Fnd}{h h':Nat}{P P':List Pr}{B B':List Int}{block:Nat}(c:Cm b [] L f g h P B h' P' B' block)(d:Dk b f h P B)(m:Mk f g.wd h' P' B'):firstFree (gave (nwFd g block).wd (nwFd g block).su.m)≠none:=by
 intro hn;have hm:=d.mrg;have hl:=d.len;have l2:=c.dk.len;have lb:(b2Of b [] g block).length=b.length:=by have z1:=c.dk.z;have z2:=d.z;have e:(nwFd g block).su.z=g.su.z:=rfl;have e1:=c.co.e1;rw[e,e1]at z1;omega
 have htm:tr f.wd.now f.su.m.toNat=true:=O9 d.now (by omega) (by omega);have hne:f.su.m.toNat≠block:=λe=>by have:=c.co.free;rw[<-e,htm]at this;cases this
 have hfree:tr (nwFd g block).wd.now f.su.m.toNat=false:=by
  rw[c.dk.now _ (by omega),show((f.su.m.toNat:Nat):Int)=f.su.m by omega];have h3:(nwFd g block).su.m=(block:Int):=rfl;rw[h3];rw[decide_eq_false_iff_not];rintro(h|h);·omega
  ·rcases List.mem_append.1 h with h|h;·exact m.map h
   ·have:=List.mem_singleton.1 h;omega
 have hlen:(gave (nwFd g block).wd (nwFd g block).su.m).now.length=(nwFd g block).wd.now.length:=by show((nwFd g block).wd.now.set _ false).length=_;simp
 have:=Ho hn f.su.m.toNat (by rw[hlen];omega);rw[Qy (by rw[c.dk.base];exact hfree) hfree (by show f.su.m.toNat≠((block:Nat):Int).toNat;omega)]at this;cases this
theorem p8 (n:Int)(ts:List (List Chg))(lst:List Chg):Runs EM 8 [.agg [aI n,aL (Tf ts),.o (.sl 3 (Lu lst))]] [] (aB true) []:=by
 obtain⟨b,f,last,md,g1⟩:=p28 n ts lst;obtain⟨h,P,B,h',P',B',d,m⟩:=md.ex;rw[lJ,Db,Db,CO]at g1;have i1:Dj (-1):=by unfold Dj;omega
 have g2:=(sH ⟨b,[],-1⟩ last (Bi d.rt) (Cv m.wr) i1).up MH;refine An (c:=c8) rfl rfl ?_;rw[vc8,(V8e _ _ _ _).down];refine⟨_,_,_,_,_,_,_,_,_,_,_,_,_,_,_,_,_,_,_,_,_,_,_,_,_,g1,L6 ⟨_,Z6,L6 ?_⟩⟩;rcases md.com d m (-1) with⟨_,h60⟩|⟨block,_,c⟩
 ·rw[h60,Ru,EG,EG,Db,Db]at g2;exact⟨_,_,_,_,_,_,_,_,_,_,_,_,_,_,_,g2,RG (by decide) rfl⟩
 ·have ce:=c.eq;rw[if_pos (.inl (by decide)),Ot]at ce;rw[ce,Ru,EG,EG,Db,Db]at g2;have hg1:(nwFd last block).su.g=last.su.g+1:=by rw[md.su];exact m.gen
  have hgm:=md.gen;have few:=md.few;have lb:(b2Of b [] last block).length=b.length:=by have z1:=c.dk.z;have z2:=d.z;have e:(nwFd last block).su.z=last.su.z:=rfl;rw[e,md.su]at z1;omega
  have e0:=md.su;have g3:=(sH ⟨b2Of b [] last block,[],-1⟩ (nwFd last block) (Bi c.dk.rt) (Cv c.dk.wr) i1).up MH;rcases c.dk.com (c.dk.same c.tidy) (by rw[hg1,e0];omega) c.dk.rt FT (by rw[lb];simp;omega) (nwFd last block) rfl rfl rfl (-1) with⟨h60,_⟩|⟨block2,_,c2⟩
  ·exact absurd h60 (c.room d m)
  ·have ce2:=c2.eq;rw[if_pos (.inl (by decide)),Ot]at ce2;rw[ce2,Ru,EG,EG,Db,Db]at g3;have hg2:(nwFd (nwFd last block) block2).su.g=(nwFd last block).su.g+1:=c.dk.gen;have g4:=(sO (b2Of (b2Of b [] last block) [] (nwFd last block) block2) [] (Bi c2.dk.rt)).up MH;rw[c2.dk.mount,iG,Db,CO]at g4;obtain⟨va,vb,g5⟩:=t31 m.wr m.tree;obtain⟨wa,wb,g6⟩:=t31 c.dk.wr c.dk.tree;obtain⟨xa,xb,g7⟩:=t31 c2.dk.wright c2.dk.treeM;have w1:w6 (last.su.g+1)=last.su.g+1:=Ad _ (by rw[e0];have:=d.gmax;omega);have w2:w6 ((nwFd last block).su.g+1)=(nwFd last block).su.g+1:=Ad _ (by rw[hg1,e0];have:=d.gmax;omega);have s1:(nwFd last block).slot=1-last.slot:=rfl;have s2:(nwFd (nwFd last block) block2).slot=1-(nwFd last block).slot:=rfl;have sl:=d.sl;have es:=md.slot;refine⟨_,_,_,_,_,_,_,_,_,_,_,_,_,_,_,g2,BU rfl ⟨_,_,_,_,_,_,_,_,_,_,_,_,_,_,_,g3,_,_,_,_,_,_,_,_,_,_,_,_,g4,BU rfl (BU rfl (BU (by rw[w1];exact hg1) (BU (by rw[w2];exact hg2) (GP (show(nwFd (nwFd last block) block2).slot≠(nwFd last block).slot by omega) (GP (show(nwFd last block).slot≠last.slot by omega) ?_)))))⟩⟩;rw[show(Dk.mt (b2Of (b2Of b [] last block) [] (nwFd last block) block2) (nwFd (nwFd last block) block2)).su=(nwFd (nwFd last block) block2).su from rfl,Si];exact L6 ⟨(),_,_,_,_,_,_,_,_,g5,(),_,_,_,_,_,_,_,_,g6,rfl,rfl,_,XW m.wr m.tree,dG ⟨(),_,_,_,_,_,_,_,_,g7,rfl,rfl,_,XW m.wr m.tree,rfl⟩⟩
theorem p8x (x:plT.T):Runs EM 8 [plT.av x] [] (aB true) []:=by rw[Ue];exact p8 _ _ _
end Go.Proofs.YtegndijbpiccgaaGreatDoor.M
