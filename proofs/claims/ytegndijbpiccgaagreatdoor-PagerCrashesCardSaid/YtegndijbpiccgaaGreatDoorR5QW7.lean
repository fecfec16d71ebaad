import Derived.Test.YtegndijbpiccgaaGreatDoorR5Pi
import Derived.Test.YtegndijbpiccgaaGreatDoorR5Pq
import Derived.KernelRfl
namespace Go.Proofs.YtegndijbpiccgaaGreatDoor.M
set_option linter.unusedVariables false
set_option linter.unusedSimpArgs false
open Go Go.Mir
def Lr (n i:Nat):List Bool:=(List.range n).map λj=>decide (j<i)
theorem XC {n i:Nat}(h:i<n):(Lr n i).set i true=Lr n (i+1):=by
 refine List.ext_getElem (by simp[Lr]) λj h1 h2=>?_;rw[List.getElem_set];simp only[Lr,List.getElem_map,List.getElem_range];by_cases e:i=j;·subst e;simp
 ·rw[if_neg e,decide_eq_decide];omega
theorem p33 (n:Int):Runs A5 33 [.n (.int .i64 n)] [] (if 24<=n/\n<=2048 then .tup [Kt (newRow n.toNat) (newRow n.toNat),.n (.int .i64 0)] else .tup [sN,.n (.int .i64 1)]) []:=by
 refine An (c:=c33) rfl rfl ?_;rw[AGo,(AGm _ _).down];refine Ab (λh=>by rw[if_neg (by omega)];rfl) (λh1=>Ab (λh=>by rw[if_neg (by omega)];rfl) (λh2=>?_));rw[if_pos (by omega)];have e0:List.replicate n.toNat (D.bool false)=Bg (Lr n.toNat 0):=by rw[Yr];congr 1;refine List.ext_getElem (by simp[Lr]) λj h1 h2=>by simp[Lr]
 refine⟨by omega,by omega,?_⟩;rw[e0];refine⟨λi r=>0<=i/\i<=10/\r=(0,Bg (Lr n.toNat i.toNat)),λi _=>(10-i).toNat,⟨rfl,by decide,by decide,rfl⟩,?_⟩;rintro i _ ⟨i0,i1,rfl⟩ _;have el:(Bg (Lr n.toNat i.toNat)).length=n.toNat:=by simp[Bg,Lr]
 refine Ab (λhlt=>?_) (λhge=>?_)
 ·refine⟨⟨rfl,rfl⟩,i0,by dsimp only;rw[el];omega,⟨⟨⟨rfl,rfl⟩,rfl⟩,rfl⟩,by dsimp only;rw[el];omega,?_⟩;repeat (refine And.intro rfl ?_)
  rw[Ad _ (by omega)];refine⟨⟨by omega,by omega,?_⟩,by first|omega|(dsimp only;omega)⟩;dsimp only;rw[Hp,XC (by omega),show(i+1).toNat=i.toNat+1 by omega]
 ·obtain rfl:i=10:=by omega
  have e:Lr n.toNat (10:Int).toNat=newRow n.toNat:=rfl;rw[e];exact⟨rfl,_,_,(AO iY (Bg (newRow n.toNat)) (by rw[AH,newRow];simp;omega)).up Kf,rfl,rfl,rfl⟩
theorem p35 (n:Int)(h:24<=n/\n<=2048):Runs A5 35 [aI n] [] (.tup [.agg [.row 3500301 0,.o (.sl 2 [])],aI 0]) [(3500301,.row false true 0 9 1 (AG (List.replicate n.toNat empS)))]:=by
 have key:∃r H',Runs A5 35 [.n (.int .i64 n)] [] r H'/\(r = .tup [.agg [.row 3500301 0,.o (.sl 2 [])],.n (.int .i64 0)]/\H'=[(3500301,.row false true 0 9 1 (AG (List.replicate n.toNat empS)))]):=by refine O1 (R:=λr H'=>r = .tup [.agg [.row 3500301 0,.o (.sl 2 [])],.n (.int .i64 0)]/\H'=[(3500301,.row false true 0 9 1 (AG (List.replicate n.toNat empS)))]) (c:=c35) rfl rfl ?_;rw[wZ,(AAf _ _).down];refine Ab (λh=>by omega) (λh1=>Ab (λh=>by omega) (λh2=>⟨by omega,by omega,rfl,?_⟩));rw[XO]
 obtain⟨r,H',hr,rfl,rfl⟩:=key;exact hr
theorem Tu {w:Wd}:∀ {i:Nat},(∀k,k<i->AY w k=false)->Ff w i=none
 | 0,_=>rfl
 | i+1,h=>by rw[Ff,Tu λk hk=>h k (by omega)];dsimp only;rw[h i (by omega)];rfl
theorem Vo {n:Nat}(h:24<=n):firstFree (Kr n)=some 10:=by
 have hl:(Kr n).now.length=n:=by simp[Kr,newRow]
 have e:Ff (Kr n) 11=some 10:=by
  rw[Ff,Tu λk hk=>?_]
  ·dsimp only;have:AY (Kr n) 10=true:=by unfold AY;rw[show(Kr n).base=newRow n from rfl,show(Kr n).now=newRow n from rfl,Jl (by omega)];decide
   rw[if_pos this]
  ·unfold AY;rw[show(Kr n).base=newRow n from rfl,show(Kr n).now=newRow n from rfl,Jl (by omega),decide_eq_true (by omega)];rfl
 exact dW e _ (by omega)
theorem SB {n:Nat}(h:24<=n):(newRow n).set 10 true=Hb n:=by
 refine List.ext_getElem (by simp[newRow,Hb]) λj h1 h2=>?_;rw[List.getElem_set];simp only[newRow,Hb,List.getElem_map,List.getElem_range];by_cases e:10=j;·subst e;simp
 ·rw[if_neg e,decide_eq_decide];omega
theorem OK {n:Nat}(h:24<=n)(h2:n<=2048):Ce (newRow n) (newRow n):=by
 have e:(newRow n).length=n:=by simp[newRow]
 refine⟨rfl,by omega,by omega,λj hj=>?_⟩;rw[Jl (by omega)];simp;omega
theorem p11 (n:Int):Runs A5 11 [aI n] [] (if 24<=n/\n<=2048 then .tup [CO (Fa n.toNat) [],aI 0] else .tup [CO [] [],aI 1]) []:=by
 have g1:=p33 n;refine An (c:=c11) rfl rfl ?_;rw[AEk,(AGu _ _).down];by_cases hn:24<=n/\n<=2048
 ·rw[if_pos hn,Kt]at g1;rw[if_pos hn];obtain⟨m,rfl⟩:∃m:Nat,n=m:=⟨n.toNat,by omega⟩
  rw[Int.toNat_natCast]at *;have hm:24<=m:=by omega
  have hm2:m<=2048:=by omega
  have g2:=(p34 (Kr m) (OK hm hm2)).up Kf;rw[Vo hm]at g2;dsimp only at g2;rw[show(Kr m).base=newRow m from rfl,show(Kr m).now=newRow m from rfl,SB hm,Kt,Kt]at g2;have g3:=p35 (m:Int) (by omega);rw[Int.toNat_natCast]at g3;have g4:=p37 (Hb m) (by rw[D4];omega);have g5:=(((p36 3 1 (packS (Hb m))).up E4).up DL).up Kf;rw[L5,if_pos (TO hm2),pg]at g5;have g6:=(((p38 (Lt m)).up E4).up DL).up Kf;rw[Q3,if_pos (QW hm hm2),Vz]at g6;have el:(AG (List.replicate m empS)).length=m:=by simp[AG]
  refine⟨_,_,_,g1,Aa (λh=>by simp at h) (λ_=>⟨_,_,_,_,g2,Aa (λh=>by simp at h) (λ_ => .inl ⟨_,_,_,_,_,g3,Aa (λh=>by simp at h) (λ_=>⟨_,g4,_,_,g5,Aa (λh=>by simp at h) (λ_=>⟨_,_,g6,?_⟩)⟩)⟩)⟩)⟩;refine⟨⟨rfl,rfl⟩,by decide,by rw[el];omega,⟨⟨⟨rfl,rfl⟩,rfl⟩,rfl⟩,by rw[el];omega,⟨rfl,rfl⟩,by decide,by rw[List.length_set,el];omega,⟨⟨⟨rfl,rfl⟩,rfl⟩,rfl⟩,by rw[List.length_set,el];show 10<m;omega,rfl,?_⟩;rw[Fe,Fe];rfl
 ·rw[if_neg hn,sN]at g1;rw[if_neg hn];exact⟨_,_,_,g1,Aa (λ_=>rfl) (λh=>by simp at h)⟩
theorem Nq {n:Nat}(hn:24<=n)(hn2:n<=2048):GJ (Fa n) []=(⟨Lt n,0,G1 (Fa n) (Lt n) (Hb n),[]⟩,0):=by have d:=R5 hn hn2;rw[d.mount,Dk.mt];have e:Iq (WT n).su.g 0 (((Fa n).take 10).drop 2)=[]:=LQ (by rw[Ma];omega) (QT hn 2 (by omega) (by omega));rw[e];rfl
theorem pR {n:Nat}(hn:24<=n)(hn2:n<=2048):Rt (Fa n) []=true:=(R5 hn hn2).rt
theorem p12:Runs A5 12 [] [] (aB true) []:=by have g1:=p11 24;rw[if_pos (by decide),CO]at g1;have g2:=sO (Fa 24) [] (Bi (pR (by omega) (by omega)));rw[Nq (by omega) (by omega),iG,Db,CO]at g2;refine An (c:=c12) rfl rfl ?_;rw[AFk,(ACz _).down];exact⟨_,_,_,g1,_,_,_,_,_,_,_,_,_,_,_,_,g2,rfl⟩
theorem p18 (f:Fnd)(hw:WFits f.wd)(hr:(f.ring.length:Int)<=9223372036854775807):Runs A5 18 [Db f,Db f] [] (aB true) []:=by have g1:=p49 f.wd f.wd hw;rw[decide_eq_true rfl,EA]at g1;have g2:=(((p50 f.ring hr).up E4).up DL).up Kf;refine An (c:=c18) rfl rfl ?_;rw[Db,AHn,(AGY _ _ _ _ _ _ _ _ _ _ _ _ _ _ _ _ _ _ _ _ _ _ _).down];refine Aa (λ_=>eN ⟨_,g1,Aa (λ_=>⟨_,g2,rfl⟩) (λh=>by cases h)⟩) (λh=>by simp at h)
end Go.Proofs.YtegndijbpiccgaaGreatDoor.M
namespace Go.Proofs.YtegndijbpiccgaaGreatDoor.M
set_option linter.unusedVariables false
set_option linter.unusedSimpArgs false
open Go Go.Mir Go.Proofs
def k_5:List Nat:=[1000031]
noncomputable def b28:=bO Tryz.prog Tryz.f28.body k_5 28 [(8,[1,2,3,4,6,8,9],[2801211,2801401,2801607,2801608],[],[]),(9,[1,2,3,4,6,8,9,47,48,49],[2801211,2801401,2801607,2801608],[],[]),(21,[1,2,3,4,6,8,9,47,48,49],[2801211,2801401,2801607,2801608],[],[])] [(9,[.keepF 28,.keep 1,.keep 2,.keep 3,.keep 4,.keep 6,.keep 8,.keep 9,.keep 47,.keep 48,.slot 49 (.one (.int .i64)),.keepO 2800000,.box 2800001 [.nil,.nil],.box 2800002 [.int .i64,.int .i64,.int .i64,.int .i64,.int .i64,.nil,.nil,.nil,.int .i64,.int .i64,.nil],.box 2800003 [.int .i64,.int .i64,.int .i64,.int .i64,.int .i64,.nil,.nil,.nil,.int .i64,.int .i64,.nil],.keepO 2800108,.box 2800402 [.slo 1,.slo 2,.int .i64],.box 2800505 [.int .i64,.int .i64,.int .i64,.int .i64,.int .i64,.slo 1,.slo 1,.slo 1,.int .i64,.int .i64,.slo 1]])]
noncomputable def c28:FnC:=⟨28,111,[.cell 2 (some 2),.cell 3 (some 11),.cell 4 (some 11),.tmp 5],b28,false,[.agg [.int .i64,.slo 1,.slo 3]],.tup [.agg [.slo 1,.slo 2],.agg [.int .i64,.int .i64,.int .i64,.int .i64,.int .i64,.slo 1,.slo 1,.slo 1,.int .i64,.int .i64,.slo 1],.agg [.int .i64,.int .i64,.int .i64,.int .i64,.int .i64,.slo 1,.slo 1,.slo 1,.int .i64,.int .i64,.slo 1],.one .bool],none,false,[]⟩
theorem AD6:IsFn Tryz.prog 28 c28:=A0 Tryz.func28 rfl rfl
noncomputable def b7:=bO Tryz.prog Tryz.f7.body k_5 7 [] []
noncomputable def c7:FnC:=⟨7,74,[.tmp 2],b7,false,[.agg [.int .i64,.slo 1,.slo 3]],.val (.one .bool),none,false,[]⟩
theorem is7:IsFn Tryz.prog 7 c7:=A0 Tryz.func7 rfl rfl
noncomputable def b8:=bO Tryz.prog Tryz.f8.body k_5 8 [] []
noncomputable def c8:FnC:=⟨8,124,[.tmp 2],b8,false,[.agg [.int .i64,.slo 1,.slo 3]],.val (.one .bool),none,false,[]⟩
theorem is8:IsFn Tryz.prog 8 c8:=A0 Tryz.func8 rfl rfl
noncomputable def b9:=bO Tryz.prog Tryz.f9.body k_5 9 [] []
noncomputable def c9:FnC:=⟨9,105,[.tmp 4],b9,false,[.agg [.int .i64,.slo 1,.slo 3],.one (.int .i64)],.val (.one .bool),none,false,[]⟩
theorem is9:IsFn Tryz.prog 9 c9:=A0 Tryz.func9 rfl rfl
noncomputable def b10:=bO Tryz.prog Tryz.f10.body k_5 10 [] []
noncomputable def c10:FnC:=⟨10,124,[.tmp 6],b10,false,[.agg [.int .i64,.slo 1,.slo 3],.one (.int .i64),.one (.slo 1)],.val (.one .bool),none,false,[]⟩
theorem ACq:IsFn Tryz.prog 10 c10:=A0 Tryz.func10 rfl rfl
noncomputable def ADH:List (Nat×Fun):=[(28,.code c28),(7,.code c7),(8,.code c8),(9,.code c9),(10,.code c10)]
noncomputable def AAB:List (Nat×Fun):=ADH++gU
noncomputable def EM:Nat->Option Fun:=D3 AAB
set_option maxRecDepth 100000 in
theorem company5:Company Tryz.prog EM:=
 .cons AD6<|.cons is7<|.cons is8<|.cons is9<|.cons ACq<|Xn
theorem MH:PL A5 EM:=II (by kernel_rfl)
end Go.Proofs.YtegndijbpiccgaaGreatDoor.M
namespace Go.Proofs.YtegndijbpiccgaaGreatDoor.M
set_option linter.unusedVariables false
set_option linter.unusedSimpArgs false
open Go Go.Mir
abbrev Sk:=
 Int×Int×Int×Int×Int×Unit×Unit×Unit×Int×Int×Unit×Unit
abbrev Wq:=
 LD×LD×Int×Unit
abbrev Vt:=
 Int×Int×Int×Int×Int×LD×LD×LD×Int×Int×LD×Unit
abbrev ZV (b:Int)(c a:LD):=
 hB 2800000 [aI b,aL c,.o (D.sl 3 a)]
abbrev Z2 (a:LD):=
 Ck false (a.length:Int) 30
abbrev U3 (a:Vt):AV:=
 .agg [aI a.1,aI a.2.1,aI a.2.2.1,aI a.2.2.2.1,aI a.2.2.2.2.1,aL a.2.2.2.2.2.1,aL a.2.2.2.2.2.2.1,aL a.2.2.2.2.2.2.2.1,aI a.2.2.2.2.2.2.2.2.1,aI a.2.2.2.2.2.2.2.2.2.1,aL a.2.2.2.2.2.2.2.2.2.2.1]
abbrev eK (b:LD)(a:Vt)(d:AV->Prop)(c:Wq):=
 rn 3/\(0:Int)<=Z2 b/\((Z2 b):Int)<=(b.length:Int)/\∃(f g j:LD)(e i h:Int),Runs EM 70 [.agg [aL a.2.2.2.2.2.1,aL a.2.2.2.2.2.2.1,aL a.2.2.2.2.2.2.2.1,aI a.2.2.2.2.2.2.2.2.1,aI a.2.2.2.2.2.2.2.2.2.1],.o (D.sl 3 (List.drop 0 (List.take (Int.toNat (Z2 b)) b)))] [] (M7 f g j e i h) []/\Ae (h==0) (d (.tup [.agg [aL c.1,.o (D.sl 2 c.2.1)],U3 a,.agg [aI a.1,aI a.2.1,aI a.2.2.1,aI a.2.2.2.1,aI a.2.2.2.2.1,aL f,aL g,aL j,aI e,aI i,aL a.2.2.2.2.2.2.2.2.2.2.1],aB true])) (d (.tup [.agg [aL c.1,.o (D.sl 2 c.2.1)],U3 a,U3 a,aB true]))
abbrev Z8 (a:LD):=
 Ck false (a.length:Int) 20
abbrev XG (a:Sk):List AV:=
 [aI a.1,aI a.2.1,aI a.2.2.1,aI a.2.2.2.1,aI a.2.2.2.2.1,.n D.nil,.n D.nil,.n D.nil,aI a.2.2.2.2.2.2.2.2.1,aI a.2.2.2.2.2.2.2.2.2.1,.n D.nil]
def V28 (G:Int)(h i:LD)(R:AV->Prop):Prop:=
 ∃(f g:LD)(S:Int),Runs EM 11 [aI (Ck false (Ck true G 24) 80)] [] (.tup [Es f g,aI S]) []/\Ae (S != 0) (R (.tup [ZP f g,LB,LB,aB false])) (∃(l r s p k:Int)(m v w:LD)(t q:Int)(u:LD)(Y:Int),Runs EM 16 [Es f g] [] (.tup [.agg (Bv l r s p k m v w t q u),aI Y]) []/\Ae (Y != 0) (R (.tup [ZP f g,Sr l r s p k m v w t q u,Sr l r s p k m v w t q u,aB false])) (∃(O:Int->MN->Sk->Sk->Wq->Vt->Prop)(J:Int->MN->Sk->Sk->Wq->Vt->Nat),(rh [ZV G h i,hB 2800001 UC,hB 2800002 HZ,hB 2800003 HZ,hB 2800108 (Gx f g),hB 2800402 [aL f,.o (D.sl 2 g),aI (-1)],hB 2800505 (Bv l r s p k m v w t q u)]/\O 0 ((),(),()) (0,0,0,0,0,(),(),(),0,0,(),()) (0,0,0,0,0,(),(),(),0,0,(),()) (f,g,(-1),()) (l,r,s,p,k,m,v,w,t,q,u,()))/\∀(e:Int)(Q:MN)(b c:Sk)(d:Wq)(a:Vt),O e Q b c d a->∀a1:Nat->AV,Ae (BK e h) (rn 1/\(0:Int)<=e/\∃U:D,AW h e U/\∃j:LD,((D.cells U)[0]?=some (D.sl 3 j))/\Ae (decide (e>=5)) (eK i a R d) (rn 3/\(0:Int)<=Z8 j/\((Z8 j):Int)<=(j.length:Int)/\∃(V Z W:LD)(a0 T X:Int),Runs EM 70 [.agg [aL a.2.2.2.2.2.1,aL a.2.2.2.2.2.2.1,aL a.2.2.2.2.2.2.2.1,aI a.2.2.2.2.2.2.2.2.1,aI a.2.2.2.2.2.2.2.2.2.1],.o (D.sl 3 (List.drop 0 (List.take (Int.toNat (Z8 j)) j)))] [] (M7 V Z W a0 T X) []/\Ae (X != 0) (rq (.ptr 2800000 0)/\rq (.ptr 2800001 0)/\rq (.ptr 2800002 0)/\rq (.ptr 2800003 0)/\rq (.ptr 2800108 0)/\rq (.ptr 2800402 0)/\rq (.ptr 2800505 0)/\rq (aL h)/\GW h/\rh [ZV G h i,hB 2800001 UC,hB 2800002 (XG b),hB 2800003 (XG c),hB 2800108 (Gx f g),hB 2800402 [aL d.1,.o (D.sl 2 d.2.1),aI d.2.2.1],hB 2800505 [aI a.1,aI a.2.1,aI a.2.2.1,aI a.2.2.2.1,aI a.2.2.2.2.1,aL a.2.2.2.2.2.1,aL a.2.2.2.2.2.2.1,aL a.2.2.2.2.2.2.2.1,aI a.2.2.2.2.2.2.2.2.1,aI a.2.2.2.2.2.2.2.2.2.1,aL a.2.2.2.2.2.2.2.2.2.2.1]]/\O (w6 (e+1)) ((),(),()) (b.1,b.2.1,b.2.2.1,b.2.2.2.1,b.2.2.2.2.1,(),(),(),b.2.2.2.2.2.2.2.2.1,b.2.2.2.2.2.2.2.2.2.1,(),()) (c.1,c.2.1,c.2.2.1,c.2.2.2.1,c.2.2.2.2.1,(),(),(),c.2.2.2.2.2.2.2.2.1,c.2.2.2.2.2.2.2.2.2.1,(),()) (d.1,d.2.1,d.2.2.1,()) (a.1,a.2.1,a.2.2.1,a.2.2.2.1,a.2.2.2.2.1,a.2.2.2.2.2.1,a.2.2.2.2.2.2.1,a.2.2.2.2.2.2.2.1,a.2.2.2.2.2.2.2.2.1,a.2.2.2.2.2.2.2.2.2.1,a.2.2.2.2.2.2.2.2.2.2.1,())/\((J (w6 (e+1)) ((),(),()) (b.1,b.2.1,b.2.2.1,b.2.2.2.1,b.2.2.2.2.1,(),(),(),b.2.2.2.2.2.2.2.2.1,b.2.2.2.2.2.2.2.2.2.1,(),()) (c.1,c.2.1,c.2.2.1,c.2.2.2.1,c.2.2.2.2.1,(),(),(),c.2.2.2.2.2.2.2.2.1,c.2.2.2.2.2.2.2.2.2.1,(),()) (d.1,d.2.1,d.2.2.1,()) (a.1,a.2.1,a.2.2.1,a.2.2.2.1,a.2.2.2.2.1,a.2.2.2.2.2.1,a.2.2.2.2.2.2.1,a.2.2.2.2.2.2.2.1,a.2.2.2.2.2.2.2.2.1,a.2.2.2.2.2.2.2.2.2.1,a.2.2.2.2.2.2.2.2.2.2.1,())):Nat)<J e Q b c d a) (∃(x H:LD)(M B z y L E:Int)(A I K:LD)(F C:Int)(N:LD)(P:Int),Runs EM 24 [.agg [aL d.1,.o (D.sl 2 d.2.1),aI d.2.2.1],.agg [aI a.1,aI a.2.1,aI a.2.2.1,aI a.2.2.2.1,aI a.2.2.2.2.1,aL V,aL Z,aL W,aI a0,aI T,aL a.2.2.2.2.2.2.2.2.2.2.1]] [] (.tup [C3 x H M,.agg (Bv B z y L E A I K F C N),aI P]) []/\Ae (P==60) (eK i a R d) (Ae (P != 0) (R (.tup [ZP f g,U3 a,U3 a,aB false])) (rq (.ptr 2800000 0)/\rq (.ptr 2800001 0)/\rq (.ptr 2800002 0)/\rq (.ptr 2800003 0)/\rq (.ptr 2800108 0)/\rq (.ptr 2800402 0)/\rq (.ptr 2800505 0)/\rq (aL h)/\GW h/\rh [ZV G h i,hB 2800001 UC,hB 2800002 (XG b),hB 2800003 (XG c),hB 2800108 (Gx f g),hB 2800402 [aL x,.o (D.sl 2 H),aI M],hB 2800505 (Bv B z y L E A I K F C N)]/\O (w6 (e+1)) ((),(),()) (b.1,b.2.1,b.2.2.1,b.2.2.2.1,b.2.2.2.2.1,(),(),(),b.2.2.2.2.2.2.2.2.1,b.2.2.2.2.2.2.2.2.2.1,(),()) (c.1,c.2.1,c.2.2.1,c.2.2.2.1,c.2.2.2.2.1,(),(),(),c.2.2.2.2.2.2.2.2.1,c.2.2.2.2.2.2.2.2.2.1,(),()) (x,H,M,()) (B,z,y,L,E,A,I,K,F,C,N,())/\((J (w6 (e+1)) ((),(),()) (b.1,b.2.1,b.2.2.1,b.2.2.2.1,b.2.2.2.2.1,(),(),(),b.2.2.2.2.2.2.2.2.1,b.2.2.2.2.2.2.2.2.2.1,(),()) (c.1,c.2.1,c.2.2.1,c.2.2.2.1,c.2.2.2.2.1,(),(),(),c.2.2.2.2.2.2.2.2.1,c.2.2.2.2.2.2.2.2.2.1,(),()) (x,H,M,()) (B,z,y,L,E,A,I,K,F,C,N,())):Nat)<J e Q b c d a))))) (eK i a R d)))
def AGg:=λa b c d=>PLift.up (by delta V28 eK XG Bv U3 C3 MN BK LB AU ZV Gx Wq GW Z8 HZ UC Vt Z2 Es Sk Sr M7 AW ZP;exact rfl:V28 a b c d=_)
theorem ACn a c b R:Vc EM c28.body (Af c28 [(.agg [aI a,aL c,(.o (.sl 3 b))])]) [] (Av c28 R)=V28 a c b R:=by kernel_rfl
theorem Z6:Runs EM 12 [] [] (aB true) []:=p12.up MH
theorem AEA {n:Int}(h:(Lit.int .i64 n).wf=true):Dj n:=by
 simp only[Lit.wf,Bool.and_eq_true,decide_eq_true_eq]at h;have e1:IntKind.min .i64 = -9223372036854775808:=by decide
 have e2:IntKind.max .i64=9223372036854775807:=by decide
 unfold Dj;omega
theorem RG {a b:Int}{A B:Prop}(h:a≠b)(x:A):Ae (a != b) A B:=by rw[show(a != b)=true by simpa using h];exact x
theorem BU {a b:Int}{A B:Prop}(h:a=b)(x:B):Ae (a != b) A B:=by rw[show(a != b)=false by simpa using h];exact x
theorem Ik {a b:Int}{A B:Prop}(h:a=b)(x:A):Ae (a==b) A B:=by rw[show(a==b)=true by simpa using h];exact x
theorem GP {a b:Int}{A B:Prop}(h:a≠b)(x:B):Ae (a==b) A B:=by rw[show(a==b)=false by simpa using h];exact x
theorem Um (l:List Chg)(n:Nat):List.drop 0 (List.take n (Lu l))=Lu (l.take n):=by simp[Lu,List.map_take]
def lJ (b:List bA)(f last:Fnd):AV := .tup [CO b [],Db f,Db last,aB true]
def Tf (l:List (List Chg)):List Mir.D:=l.map λt => .sl 3 (Lu t)
theorem cW (l:List (List Chg)):(Tf l).length=l.length:=by simp[Tf]
theorem pG {l:List (List Chg)}{i:Nat}(h:i<l.length):(Tf l)[i]?=some (.sl 3 (Lu l[i])):=by simp[Tf,h]
structure Pl (i:Int) (b:List bA) (f:Fnd):Prop where
 ex:∃h P B,Dk b f h P B
 tidy:∀s∈f.wd.pages,TrimS s=s
 ring:∀i:Nat,2<=i->i<10->blk b i=empS
 few:b.length<=80
 gen:f.su.g<=i+1
 r1:f.ring=[]
def fdC (f:Fnd):Int×(Int×(Int×(Int×(Int×(List D×(List D×(List D×(Int×(Int×(List D×Unit)))))))))):=(f.su.g,f.su.r,f.su.m,f.su.z,f.slot,Bg f.wd.base,Bg f.wd.now,AG f.wd.pages,f.wd.root,f.wd.gen,AG f.ring,())
def pwC (b:List bA):List D×(List D×(Int×Unit)):=(bk b,pk [],-1,())
theorem Pl.last {i:Int}{b:List bA}{f:Fnd}(p:Pl i b f)(hi:i<=5)(l:List Chg):((HB E3 f.wd l).2=0->Made b f ⟨f.su,f.slot,(HB E3 f.wd l).1,f.ring⟩)/\Made b f f:=by
 obtain⟨h,P,B,d⟩:=p.ex;have g:=p.gen;refine⟨λh0=>?_,⟨⟨h,P,B,h,P,B,d,d.same p.tidy⟩,p.tidy,p.ring,p.few,by omega,rfl,rfl,p.r1,p.r1⟩⟩;have e:HB E3 f.wd l=Cu E3 f.wd l:=by rw[HB,if_neg (by simpa using d.wr)]
 rw[e]at h0 |-;rcases d.changes p.tidy (l:=l) with h1|⟨h1,h2,h',B',m⟩
 ·rcases h1 with h1|⟨h1,_⟩<;>rw[h1]at h0<;>cases h0
 ·exact⟨⟨h,P,B,h',_,B',d,m⟩,p.tidy,p.ring,p.few,by omega,rfl,rfl,p.r1,p.r1⟩
theorem Pl.turn {i:Int}{b:List bA}{f:Fnd}(p:Pl i b f)(hi:i<5){l:List Chg}(h0:(HB E3 f.wd l).2=0):
   CommitR ⟨b,[],-1⟩ ⟨f.su,f.slot,(HB E3 f.wd l).1,f.ring⟩=(Tz,fd0,60)\/∃b' f',CommitR ⟨b,[],-1⟩ ⟨f.su,f.slot,(HB E3 f.wd l).1,f.ring⟩=(⟨b',[],-1⟩,f',0)/\Pl (i+1) b' f':=by
 obtain⟨h,P,B,d⟩:=p.ex
 have g:=p.gen
 have fw:=p.few
 have e:HB E3 f.wd l=Cu E3 f.wd l:=by rw[HB,if_neg (by simpa using d.wr)]
 rw[e]at h0 |-
 rcases d.changes p.tidy (l:=l) with h1|⟨h1,h2,h',B',m⟩
 ·rcases h1 with h1|⟨h1,_⟩<;>rw[h1]at h0<;>cases h0
 ·rcases d.com m (by omega) d.rt FT (by simp;omega) ⟨f.su,f.slot,(Cu E3 f.wd l).1,f.ring⟩ rfl rfl rfl (-1) with⟨_,h3⟩|⟨block,_,c⟩
  ·exact .inl h3
  ·have ce:=c.eq
   rw[if_pos (.inl (by decide))]at ce
   refine .inr ⟨_,_,ce,⟨⟨_,_,_,c.dk⟩,c.tidy,λj h2 h10=>?_,?_,?_,rfl⟩⟩
   ·rw[c.ring j h2 h10,Dz (λw hw=>by cases hw)]
    exact p.ring j h2 h10
   ·have z1:=c.dk.z
    have z2:=d.z
    have:(nwFd ⟨f.su,f.slot,(Cu E3 f.wd l).1,f.ring⟩ block).su.z=f.su.z:=rfl
    omega
   ·have:=m.gen
    show(Cu E3 f.wd l).1.gen<=_
    omega
theorem Pl.fits {i:Int}{b:List bA}{f:Fnd}(p:Pl i b f):WFits f.wd/\Fits b []:=by obtain⟨h,P,B,d⟩:=p.ex;exact⟨Cv d.wr,Bi d.rt⟩
theorem p28 (n:Int)(ts:List (List Chg))(last:List Chg):∃b f l,Made b f l/\Runs EM 28 [.agg [aI n,aL (Tf ts),.o (.sl 3 (Lu last))]] [] (lJ b f l) []:=by
 suffices h:∃r,Runs EM 28 [.agg [.n (.int .i64 n),.o (.sl 1 (Tf ts)),.o (.sl 3 (Lu last))]] [] r []/\∃b f l,Made b f l/\r=lJ b f l by obtain⟨r,h1,b,f,l,h2,rfl⟩:=h;exact⟨b,f,l,h2,h1⟩
 refine F0 (R:=λr=>∃b f l,Made b f l/\r=lJ b f l) (c:=c28) rfl rfl ?_;obtain⟨s,hs,s0,s1⟩:∃s:Nat,Ck false (Ck true n 24) 80=s/\24<=s/\s<=80:=by refine⟨(Ck false (Ck true n 24) 80).toNat,?_⟩;unfold Ck;simp only[Bool.false_eq_true,if_false,if_true];split<;>split<;>omega
 obtain⟨N,hN,hN1,hN2⟩:=X4 last.length 30 (by decide);have g1:=(p11 (s:Int)).up MH;rw[if_pos (by omega),Int.toNat_natCast,CO]at g1;have d0:=R5 s0 (by omega);have g2:=(sO (Fa s) [] (Bi d0.rt)).up MH;rw[Nq s0 (by omega),iG,Db,CO]at g2;rw[ACn,(AGg _ _ _ _).down,hs,Pj last,hN,Int.toNat_natCast,Um,cW];have pl0:Pl 0 (Fa s) (WT s):=by refine⟨⟨_,_,_,d0⟩,YT (λx hx=>(Sv (XP s0 (by omega) x hx)).1) _,QT s0,by rw[Ma];exact s1,by show(1:Int)<=0+1;decide,rfl⟩
 refine⟨_,_,_,g1,BU rfl ⟨_,_,_,_,_,_,_,_,_,_,_,_,g2,BU rfl ⟨λi _ _ _ q x=>0<=i/\i<=5/\∃b f,q=pwC b/\x=fdC f/\Pl i b f,λi _ _ _ _ _=>(6-i).toNat,⟨rfl,by decide,by decide,Fa s,WT s,rfl,rfl,pl0⟩,?_⟩⟩⟩;rintro i _ z1 z2 _ _ ⟨i0,i5,b,f,rfl,rfl,pl⟩ _;have g3:∀l:List Chg,Small l.length->Runs EM 70 [EA f.wd,.o (.sl 3 (Lu l))] [] (jC (HB E3 f.wd l)) []:=λl hl=>(((p70 f.wd pl.fits.1 l hl).up Kf).up MH)
 have sm:∀l:List Chg,l.length<=30->Small l.length:=λl hl=>by unfold Small;omega
 have g4:=g3 (last.take N) (sm _ (by rw[List.length_take];omega));obtain⟨e1,e2⟩:=pl.last i5 (last.take N);rw[jC,EA,EA]at g4;have wi:w6 (i+1)=i+1:=Ad _ (by omega);refine Ab (λhlt=>?_) (λhge=>?_)
 ·have hi:i.toNat<ts.length:=by omega
  refine⟨rfl,i0,_,pG hi,_,rfl,?_⟩;generalize ts[i.toNat]=t;obtain⟨K,hK,hK1,hK2⟩:=X4 t.length 20 (by decide);have g5:=g3 (t.take K) (sm _ (by rw[List.length_take];omega));rw[jC,EA,EA]at g5;rw[Pj t,hK,Int.toNat_natCast,Um];refine Ab (λh5=>?_) (λh5=>?_)
  ·refine⟨rfl,by omega,by omega,_,_,_,_,_,_,g4,Aa (λhe=>?_) (λhe=>?_)⟩;·exact⟨b,f,_,e1 (by simpa using he),rfl⟩
   ·exact⟨b,f,f,e2,rfl⟩
  ·refine⟨rfl,by omega,by omega,_,_,_,_,_,_,g5,Aa (λhe=>?_) (λhe=>?_)⟩
   ·repeat (refine And.intro rfl ?_)
    rw[wi];exact⟨⟨by omega,by omega,b,f,rfl,rfl,pl.ex,pl.tidy,pl.ring,pl.few,by have:=pl.gen;omega,pl.r1⟩,by first|omega|(dsimp only;omega)⟩
   ·have he:(HB E3 f.wd (t.take K)).2=0:=by simpa using he
    have hw:WFits (HB E3 f.wd (t.take K)).1:=by obtain⟨_,_,_,h',P',B',_,m⟩:=((pl.last i5 (t.take K)).1 he).ex;exact Cv m.wr
    have g6:=(sH ⟨b,[],-1⟩ ⟨f.su,f.slot,(HB E3 f.wd (t.take K)).1,f.ring⟩ pl.fits.2 hw (by show Dj (-1);unfold Dj;omega)).up MH;rcases pl.turn (by omega) he with h60|⟨b',f',h0,pl'⟩
    ·rw[h60,Ru,EG,EG,Db,Db]at g6;refine⟨_,_,_,_,_,_,_,_,_,_,_,_,_,_,_,g6,Ik rfl ⟨rfl,by omega,by omega,_,_,_,_,_,_,g4,Aa (λhe=>?_) (λhe=>?_)⟩⟩;·exact⟨b,f,_,e1 (by simpa using he),rfl⟩
     ·exact⟨b,f,f,e2,rfl⟩
    ·rw[h0,Ru,EG,EG,Db,Db]at g6;refine⟨_,_,_,_,_,_,_,_,_,_,_,_,_,_,_,g6,GP (show(0:Int)≠60 by decide) (BU rfl ?_)⟩;repeat (refine And.intro rfl ?_)
     rw[wi];exact⟨⟨by omega,by omega,b',f',rfl,rfl,pl'⟩,by first|omega|(dsimp only;omega)⟩
 ·refine⟨rfl,by omega,by omega,_,_,_,_,_,_,g4,Aa (λhe=>?_) (λhe=>?_)⟩;·exact⟨b,f,_,e1 (by simpa using he),rfl⟩
  ·exact⟨b,f,f,e2,rfl⟩
def RI (f:Fnd)(j:Nat):bA:=if (j<f.wd.now.length/\tr f.wd.now j=false)\/j<10 then empS else blk f.wd.pages j
def RB (f:Fnd):List bA:=(List.range f.wd.pages.length).map (RI f)
def aJ (f:Fnd):Fnd:=⟨f.su,f.slot,⟨f.wd.base,f.wd.now,RB f,f.wd.root,f.wd.gen⟩,f.ring⟩
theorem KL (f:Fnd):(RB f).length=f.wd.pages.length:=by simp[RB]
theorem Ww (f:Fnd){k:Nat}(h:k<f.wd.pages.length):(RB f).take k++[RI f k]=(RB f).take (k+1):=by rw[List.take_succ_eq_append_getElem (by rw[KL];exact h)];congr 2;simp[RB]
def fdR (f:Fnd)(k:Nat):Int×(Int×(Int×(Int×(Int×(List D×(List D×(Nat×(Int×(Int×(List D×Unit)))))))))):=(f.su.g,f.su.r,f.su.m,f.su.z,f.slot,Bg f.wd.base,Bg f.wd.now,k,f.wd.root,f.wd.gen,AG f.ring,())
theorem p29 (f:Fnd)(hp:f.wd.pages.length<=100000):Runs A5 29 [Db f] [] (Db (aJ f)) []:=by
 refine An (c:=c29) rfl rfl ?_;rw[Db,AFZ,(AGN _ _ _ _ _ _ _ _ _ _ _ _).down,Am f.wd.pages,AH];refine⟨λi x y=>∃k:Nat,i=k/\k<=f.wd.pages.length/\x=fdR f k/\y=(k,AG ((RB f).take k)),λi _ _=>(f.wd.pages.length-i).toNat,⟨rfl,0,rfl,by omega,rfl,rfl⟩,?_⟩;rintro _ _ _ ⟨k,rfl,hk,rfl,rfl⟩ _;have el:(AG ((RB f).take k)).length=k:=by rw[Am,List.length_take,KL];omega
 have e1:w6 ((k:Int)+1)=((k+1:Nat):Int):=by rw[Ad _ (by omega)];omega
 refine Ab (λhlt=>?_) (λhge=>?_)
 ·have hl:k<f.wd.pages.length:=by omega
  have st:=Ww f hl;have bk1:f.wd.pages[k]=blk f.wd.pages k:=by rw[blk,Int.toNat_natCast,gI hl];rfl
  have fin:∀s:bA,s=RI f k->AG ((RB f).take k)++[D.str s]=AG ((RB f).take (k+1)):=λs hs=>by rw[ES,hs,st]
  have sz:((AG ((RB f).take k)).length+1)*16<=140737488355328:=by rw[el];omega
  have emp:(D.str (ByteArray.mk (List.toArray [])))=D.str empS:=rfl;refine⟨rfl,by omega,_,AZ hl,_,rfl,?_⟩;rw[e1];refine Ab (λh1=>?_) (λh1=>?_)
  ·have h1':k<f.wd.now.length:=by omega
   refine⟨rfl,by omega,_,Cg h1',_,rfl,?_⟩;refine Aa (λhb=>?_) (λhb=>?_)
   ·have hs:empS=RI f k:=by rw[RI,if_pos (.inl ⟨h1',by rw[DN h1'];simpa using hb⟩)]
    refine⟨rfl,.inl rfl,⟨⟨rfl,rfl⟩,rfl⟩,sz,?_⟩;repeat (refine And.intro rfl ?_)
    exact⟨⟨k+1,rfl,by omega,rfl,by dsimp only;rw[emp,fin _ hs];rfl⟩,by first|omega|(dsimp only;omega)⟩
   ·have hb:tr f.wd.now k=true:=by rw[DN h1'];simpa using hb
    refine Ab (λh2=>?_) (λh2=>?_)
    ·have hs:empS=RI f k:=by rw[RI,if_pos (.inr (by omega))]
     refine⟨rfl,.inl rfl,⟨⟨rfl,rfl⟩,rfl⟩,sz,?_⟩;repeat (refine And.intro rfl ?_)
     exact⟨⟨k+1,rfl,by omega,rfl,by dsimp only;rw[emp,fin _ hs];rfl⟩,by first|omega|(dsimp only;omega)⟩
    ·have hs:f.wd.pages[k]=RI f k:=by rw[RI,if_neg (λh=>h.elim (λh=>by rw[hb]at h;cases h.2) (λh=>by omega)),bk1]
     refine⟨rfl,.inl rfl,⟨⟨rfl,rfl⟩,rfl⟩,sz,?_⟩;repeat (refine And.intro rfl ?_)
     exact⟨⟨k+1,rfl,by omega,rfl,by dsimp only;rw[fin _ hs];rfl⟩,by first|omega|(dsimp only;omega)⟩
  ·refine Ab (λh2=>?_) (λh2=>?_)
   ·have hs:empS=RI f k:=by rw[RI,if_pos (.inr (by omega))]
    refine⟨rfl,.inl rfl,⟨⟨rfl,rfl⟩,rfl⟩,sz,?_⟩;repeat (refine And.intro rfl ?_)
    exact⟨⟨k+1,rfl,by omega,rfl,by dsimp only;rw[emp,fin _ hs];rfl⟩,by first|omega|(dsimp only;omega)⟩
   ·have hs:f.wd.pages[k]=RI f k:=by rw[RI,if_neg (λh=>h.elim (λh=>by omega) (λh=>by omega)),bk1]
    refine⟨rfl,.inl rfl,⟨⟨rfl,rfl⟩,rfl⟩,sz,?_⟩;repeat (refine And.intro rfl ?_)
    exact⟨⟨k+1,rfl,by omega,rfl,by dsimp only;rw[fin _ hs];rfl⟩,by first|omega|(dsimp only;omega)⟩
 ·obtain rfl:k=f.wd.pages.length:=by omega
  refine⟨rfl,?_⟩;rw[Db];dsimp only[fdR,aJ];rw[List.take_of_length_le (by rw[KL];omega)]
theorem kP {f g:Fnd}(e1:f.su=g.su)(e2:f.slot=g.slot)(e3:f.wd.base=g.wd.base)(e4:f.wd.now=g.wd.now)(e5:f.wd.root=g.wd.root)(e6:f.wd.gen=g.wd.gen)(e7:f.ring=g.ring)(el:f.wd.pages.length=g.wd.pages.length)(hp:∀j:Nat,10<=j->j<f.wd.pages.length->(j<f.wd.now.length->tr f.wd.now j=true)->blk f.wd.pages j=blk g.wd.pages j):aJ f=aJ g:=by
 have key:RB f=RB g:=by
  unfold RB;rw[<-el];refine List.map_congr_left λj hj=>?_;have hj:j<f.wd.pages.length:=by simpa using hj
  unfold RI;rw[<-e4];by_cases h:(j<f.wd.now.length/\tr f.wd.now j=false)\/j<10;·rw[if_pos h,if_pos h]
  ·rw[if_neg h,if_neg h];refine hp j (by omega) hj λhl=>?_
   cases ht:tr f.wd.now j with
   | true=>rfl
   | false=>exact absurd (.inl ⟨hl,ht⟩) h
 unfold aJ;rw[e1,e2,e3,e4,e5,e6,e7,key]
theorem Dk.page' {b:List bA}{f:Fnd}{h:Nat}{P:List Pr}{B:List Int}(d:Dk b f h P B)(hr:blk b 2=empS)(hf:f.ring=[]):aJ (Dk.mt b f)=aJ f:=by
 have hl:=d.len;have n:=d.n24;have hp:=d.wr.2.1;refine kP rfl rfl d.base.symm rfl d.root.symm d.gen.symm ?_ ?_ λj h10 hj ht=>?_;·rw[hf];exact LQ (by omega) hr
 ·show(Gp b f.wd.now).length=_;rw[DE];omega
 ·have hj:j<(Gp b f.wd.now).length:=hj;rw[DE]at hj;have ht:tr f.wd.now j=true:=ht hj;have h1:blk (Dk.mt b f).wd.pages j=blk b j:=Dk.pgs_at (by omega) (by omega) (by rw[Int.toNat_natCast];exact ht);rw[h1];exact(d.page j h10 (by omega) ht).symm
theorem YD {f:Fnd}(hw:WFits f.wd):WFits (aJ f).wd:=by
 obtain⟨h1,h2,h3,h4⟩:=hw;refine⟨h1,h2,?_,λx hx=>?_⟩;·show Small (RB f).length;rw[KL];exact h3
 ·obtain⟨j,_,rfl⟩:=List.mem_map.1 hx;unfold RI;split;·decide
  ·rcases KF (l:=f.wd.pages) (i:=(j:Int)) with h|h;·exact h4 _ h
   ·rw[h];decide
theorem t31 {w:Wd}{h:Nat}{P:List Pr}{B:List Int}(hr:WRight w)(ht:IsTree w h P B):∃va vb,Runs EM 31 [EA w] [] (.ptr 3100101 0) (hT ⟨P,B,h,false⟩ va vb):=by obtain⟨va,vb,g⟩:=tq w (Cv hr) hr.1.2.2.1;rw[JB ht]at g;exact⟨va,vb,g.up MH⟩
theorem XW {P:List Pr}{B:List Int}{w:Wd}{h:Nat}(hr:WRight w)(ht:IsTree w h P B):Runs EM 30 [.o (.sl 2 (Jm P)),.o (.sl 2 (Jm P))] [] (aB true) []:=
 (AHi P P rfl (by have:=(Qk hr ht).1;unfold Small;omega)).up MH
theorem Ot (k:Nat):dnN (-1) k = -1:=rfl
theorem Si (s:Su):((s.g==s.g)&&((s.r==s.r)&&((s.m==s.m)&&((s.z==s.z)&&true))))=true:=by simp
theorem Made.com {b:List bA}{f last:Fnd}(md:Made b f last){h h':Nat}{P P':List Pr}{B B':List Int}(d:Dk b f h P B)(m:Mk f last.wd h' P' B')(L:Int):(firstFree (gave last.wd last.su.m)=none/\CommitR ⟨b,[],L⟩ last=(Tz,fd0,60))\/∃block,firstFree (gave last.wd last.su.m)=some block/\Cm b [] L f last h P B h' P' B' block:=
 d.com m (by have:=md.gen;omega) d.rt FT (by have:=md.few;simp;omega) last md.su md.slot rfl L
theorem Cm.blank {b:List bA}{L:Int}{f g:Fnd}{h h':Nat}{P P':List Pr}{B B':List Int}{block:Nat}(c:Cm b [] L f g h P B h' P' B' block)(hr:∀i:Nat,2<=i->i<10->blk b i=empS):∀i:Nat,2<=i->i<10->blk (b2Of b [] g block) i=empS:=λi h2 h10=>by rw[c.ring i h2 h10,Dz (λw hw=>by cases hw)];exact hr i h2 h10
abbrev plT:Mir.Ty := .st [.int .i64,.sl (.sl (.st [.str,.str,.bool])),.sl (.st [.str,.str,.bool])]
abbrev cgT:Mir.Ty := .sl (.st [.str,.str,.bool])
def Iw (x:cgT.T):List Chg:=(show List (bA×bA×Bool×Unit) from x).map λp=>⟨p.2.2.1,p.1,p.2.1⟩
def lK (x:plT.T):Int×List (List Chg)×List Chg:=match x with
 | (n,ts,l,_)=>(n,(show List cgT.T from ts).map Iw,Iw l)
theorem Ue (x:plT.T):plT.av x = .agg [aI (lK x).1,aL (Tf (lK x).2.1),.o (.sl 3 (Lu (lK x).2.2))]:=by
 obtain⟨n,ts,l,_⟩:=x;have e1:Tf ((show List cgT.T from ts).map Iw)=(show List cgT.T from ts).map λt=>Mir.D.sl 3 ((show List (bA×bA×Bool×Unit) from t).map λp => .rcd [.str p.1,.str p.2.1,.bool p.2.2.1]):=by unfold Tf;rw[List.map_map];refine List.map_congr_left λt _=>?_;show Mir.D.sl 3 (Lu (Iw t))=_;unfold Iw Lu;rw[List.map_map];rfl
 have e2:Lu (Iw l)=(show List (bA×bA×Bool×Unit) from l).map λp => .rcd [.str p.1,.str p.2.1,.bool p.2.2.1]:=by unfold Iw Lu;rw[List.map_map];rfl
 show _=AV.agg [.n (.int .i64 n),.o (.sl 1 (Tf ((show List cgT.T from ts).map Iw))),.o (.sl 3 (Lu (Iw l)))];rw[e1,e2];rfl
abbrev QY (c:Int)(l a x A:LD)(u B p q m:Int)(j z s:LD)(C y:Int)(t:LD)(f h k g b:Int)(d v i:LD)(e n:Int)(w:LD)(r:Bool):=
 Runs EM 28 [.agg [aI c,aL l,.o (D.sl 3 a)]] [] (.tup [Es x A,.agg (Bv u B p q m j z s C y t),.agg (Bv f h k g b d v i e n w),aB r]) []
abbrev PF (a:Bool):=
 Runs EM 12 [] [] (aB a) []
abbrev Mn (h i a:LD)(b l:Int)(g m:Nat)(d:Int)(e:Bool)(j:Nat)(c:LD)(k:Nat)(f:LD):=
 Runs EM 31 [.agg (AU h i a b l)] [] (.ptr 3100101 0) [M5 g m d e,hR 3190001 j 129 2 c,hR 3190002 k 3 1 f]
abbrev UG (b c:LD)(a:Bool):=
 Runs EM 30 [.o (D.sl 2 b),.o (D.sl 2 c)] [] (aB a) []
abbrev UT (c d:LD)(b:AV->Prop):=
 ∃a:Bool,UG c d a/\b (.n (.bool a))
set_option maxRecDepth 8000 in
def V7 (d8:Int)(d7 d1:LD)(R:AV->Prop):Prop:=
 ∃(x0 O:LD)(T r x4 B x6:Int)(x7 x8 x9:LD)(e0 c8:Int)(c5:LD)(k g i p Z:Int)(l a m:LD)(f d:Int)(a0:LD)(y:Bool),QY d8 d7 d1 x0 O T r x4 B x6 x7 x8 x9 e0 c8 c5 k g i p Z l a m f d a0 y/\Ae (Bool.not y) (R (.n (.bool false))) (∃J:Bool,PF J/\Ae (Bool.not J) (R (.n (.bool false))) (∃(b1 b3:LD)(d6 a6 F b2 E c0:Int)(I c2 a1:LD)(b9 X:Int)(L:LD)(h:Int),Runs EM 24 [.agg [aL x0,.o (D.sl 2 O),aI (-1)],.agg (Bv k g i p Z l a m f d a0)] [] (.tup [C3 b1 b3 d6,.agg (Bv a6 F b2 E c0 I c2 a1 b9 X L),aI h]) []/\Ae (h != 0) (Ae (h==60) (R (.n (.bool (T==k&&(r==g&&(x4==i&&(B==p&&true))))))) (R (.n (.bool false)))) (∃(a5 w u N a9:Int)(j e q:LD)(c b:Int)(Q:LD)(V:Int),Runs EM 16 [Es b1 b3] [] (.tup [.agg (Bv a5 w u N a9 j e q c b Q),aI V]) []/\Ae (V==0) (∃(t v H x s:Int)(M a2 A:LD)(b4 b0:Int)(a3:LD),Runs EM 29 [.agg (Bv a5 w u N a9 j e q c b Q)] [] (.agg (Bv t v H x s M a2 A b4 b0 a3)) []/\∃(K W c1 b7 P:Int)(a4 b6 z:LD)(C a8:Int)(b8:LD),Runs EM 29 [.agg (Bv a6 F b2 E c0 I c2 a1 b9 X L)] [] (.agg (Bv K W c1 b7 P a4 b6 z C a8 b8)) []/\∃c3:Bool,Runs EM 18 [.agg (Bv t v H x s M a2 A b4 b0 a3),.agg (Bv K W c1 b7 P a4 b6 z C a8 b8)] [] (aB c3) []/\Ae c3 (∃(e2:Unit)(b5 d3:Nat)(d2:Int)(c9:Bool)(U:Nat)(Y:LD)(d0:Nat)(d5:LD),Mn j e q c b b5 d3 d2 c9 U Y d0 d5/\∃(e1:Unit)(G c6:Nat)(c7:Int)(c4:Bool)(a7:Nat)(S:LD)(d9:Nat)(d4:LD),Mn l a m f d G c6 c7 c4 a7 S d9 d4/\U=b5/\a7=G/\UT Y S R) (R (.n (.bool false)))) (R (.n (.bool false))))))
set_option maxRecDepth 8000 in
def V7e:=λa b c d=>PLift.up (by delta V7 Es UG Bv C3 PF Mn Gx AU UT QY M5;exact rfl:V7 a b c d=_)
set_option maxRecDepth 8000 in
theorem vc7 a c b R:Vc EM c7.body (Af c7 [(.agg [aI a,aL c,(.o (.sl 3 b))])]) [] (Av c7 R)=V7 a c b R:=by kernel_rfl
end Go.Proofs.YtegndijbpiccgaaGreatDoor.M
