import Derived.Test.YtjmpnbbeplgchabGreatDoorR6Pi
import Derived.Test.YtjmpnbbeplgchabGreatDoorR6Pq
namespace Go.Proofs.YtjmpnbbeplgchabGreatDoor.M
set_option linter.unusedVariables false
set_option linter.unusedSimpArgs false
open Go Go.Mir
def La (n i:Nat):List Bool:=(List.range n).map λj=>decide (j<i)
theorem W1 {n i:Nat}(h:i<n):(La n i).set i true=La n (i+1):=by
 refine List.ext_getElem (by simp[La]) λj h1 h2=>?_;rw[List.getElem_set];simp only[La,List.getElem_map,List.getElem_range];by_cases e:i=j;·subst e;simp
 ·rw[if_neg e,decide_eq_decide];omega
theorem p53 (n:Int):Runs A8 53 [.n (.int .i64 n)] [] (if 24<=n/\n<=2048 then .tup [G1 (newRow n.toNat) (newRow n.toNat),.n (.int .i64 0)] else .tup [uL,.n (.int .i64 1)]) []:=by
 refine Ag (c:=c53) rfl rfl ?_;rw[AH1,(AGl _ _).down];refine Ab (λh=>by rw[if_neg (by omega)];rfl) (λh1=>Ab (λh=>by rw[if_neg (by omega)];rfl) (λh2=>?_));rw[if_pos (by omega)];have e0:List.replicate n.toNat (D.bool false)=Bk (La n.toNat 0):=by rw[Za];congr 1;refine List.ext_getElem (by simp[La]) λj h1 h2=>by simp[La]
 refine⟨by omega,by omega,?_⟩;rw[e0];refine⟨λi r=>0<=i/\i<=10/\r=(0,Bk (La n.toNat i.toNat)),λi _=>(10-i).toNat,⟨rfl,by decide,by decide,rfl⟩,?_⟩;rintro i _ ⟨i0,i1,rfl⟩ _;have el:(Bk (La n.toNat i.toNat)).length=n.toNat:=by simp[Bk,La]
 refine Ab (λhlt=>?_) (λhge=>?_)
 ·refine⟨⟨rfl,rfl⟩,i0,by dsimp only;rw[el];omega,⟨⟨⟨rfl,rfl⟩,rfl⟩,rfl⟩,by dsimp only;rw[el];omega,?_⟩;repeat (refine And.intro rfl ?_)
  rw[Ac _ (by omega)];refine⟨⟨by omega,by omega,?_⟩,by first|omega|(dsimp only;omega)⟩;dsimp only;rw[Ha,W1 (by omega),show(i+1).toNat=i.toNat+1 by omega]
 ·obtain rfl:i=10:=by omega
  have e:La n.toNat (10:Int).toNat=newRow n.toNat:=rfl;rw[e];exact⟨rfl,_,_,(AR YA (Bk (newRow n.toNat)) (by rw[AI,newRow];simp;omega)).up Gu,rfl,rfl,rfl⟩
theorem p55 (n:Int)(h:24<=n/\n<=2048):Runs A8 55 [aI n] [] (.tup [.agg [.row 5500301 0,.o (.sl 2 [])],aI 0]) [(5500301,.row false true 0 9 1 (AK (List.replicate n.toNat Ar)))]:=by
 have key:∃r H',Runs A8 55 [.n (.int .i64 n)] [] r H'/\(r = .tup [.agg [.row 5500301 0,.o (.sl 2 [])],.n (.int .i64 0)]/\H'=[(5500301,.row false true 0 9 1 (AK (List.replicate n.toNat Ar)))]):=by refine OK (R:=λr H'=>r = .tup [.agg [.row 5500301 0,.o (.sl 2 [])],.n (.int .i64 0)]/\H'=[(5500301,.row false true 0 9 1 (AK (List.replicate n.toNat Ar)))]) (c:=c55) rfl rfl ?_;rw[ACS,(ABi _ _).down];refine Ab (λh=>by omega) (λh1=>Ab (λh=>by omega) (λh2=>⟨by omega,by omega,rfl,?_⟩));rw[XH]
 obtain⟨r,H',hr,rfl,rfl⟩:=key;exact hr
theorem TW {w:Wd}:∀ {i:Nat},(∀k,k<i->AJ w k=false)->DU w i=none
 | 0,_=>rfl
 | i+1,h=>by rw[DU,TW λk hk=>h k (by omega)];dsimp only;rw[h i (by omega)];rfl
theorem UN {n:Nat}(h:24<=n):firstFree (Kl n)=some 10:=by
 have hl:(Kl n).now.length=n:=by simp[Kl,newRow]
 have e:DU (Kl n) 11=some 10:=by
  rw[DU,TW λk hk=>?_]
  ·dsimp only;have:AJ (Kl n) 10=true:=by unfold AJ;rw[show(Kl n).base=newRow n from rfl,show(Kl n).now=newRow n from rfl,Jk (by omega)];decide
   rw[if_pos this]
  ·unfold AJ;rw[show(Kl n).base=newRow n from rfl,show(Kl n).now=newRow n from rfl,Jk (by omega),decide_eq_true (by omega)];rfl
 exact gL e _ (by omega)
theorem SN {n:Nat}(h:24<=n):(newRow n).set 10 true=Gf n:=by
 refine List.ext_getElem (by simp[newRow,Gf]) λj h1 h2=>?_;rw[List.getElem_set];simp only[newRow,Gf,List.getElem_map,List.getElem_range];by_cases e:10=j;·subst e;simp
 ·rw[if_neg e,decide_eq_decide];omega
theorem Og {n:Nat}(h:24<=n)(h2:n<=2048):BJ (newRow n) (newRow n):=by
 have e:(newRow n).length=n:=by simp[newRow]
 refine⟨rfl,by omega,by omega,λj hj=>?_⟩;rw[Jk (by omega)];simp;omega
theorem p15 (n:Int):Runs A8 15 [aI n] [] (if 24<=n/\n<=2048 then .tup [CK (BS n.toNat) [],aI 0] else .tup [CK [] [],aI 1]) []:=by
 have g1:=p53 n;refine Ag (c:=c15) rfl rfl ?_;rw[AIj,(AF2 _ _).down];by_cases hn:24<=n/\n<=2048
 ·rw[if_pos hn,G1]at g1;rw[if_pos hn];obtain⟨m,rfl⟩:∃m:Nat,n=m:=⟨n.toNat,by omega⟩
  rw[Int.toNat_natCast]at *;have hm:24<=m:=by omega
  have hm2:m<=2048:=by omega
  have g2:=(p54 (Kl m) (Og hm hm2)).up Gu;rw[UN hm]at g2;dsimp only at g2;rw[show(Kl m).base=newRow m from rfl,show(Kl m).now=newRow m from rfl,SN hm,G1,G1]at g2;have g3:=p55 (m:Int) (by omega);rw[Int.toNat_natCast]at g3;have g4:=p57 (Gf m) (by rw[Ds];omega);have g5:=(((p56 3 1 (packS (Gf m))).up Ea).up C5).up Gu;rw[J8,if_pos (T6 hm2),pg]at g5;have g6:=(((p58 (Qw m)).up Ea).up C5).up Gu;rw[PC,if_pos (Rq hm hm2),UO]at g6;have el:(AK (List.replicate m Ar)).length=m:=by simp[AK]
  refine⟨_,_,_,g1,Aa (λh=>by simp at h) (λ_=>⟨_,_,_,_,g2,Aa (λh=>by simp at h) (λ_ => .inl ⟨_,_,_,_,_,g3,Aa (λh=>by simp at h) (λ_=>⟨_,g4,_,_,g5,Aa (λh=>by simp at h) (λ_=>⟨_,_,g6,?_⟩)⟩)⟩)⟩)⟩;refine⟨⟨rfl,rfl⟩,by decide,by rw[el];omega,⟨⟨⟨rfl,rfl⟩,rfl⟩,rfl⟩,by rw[el];omega,⟨rfl,rfl⟩,by decide,by rw[List.length_set,el];omega,⟨⟨⟨rfl,rfl⟩,rfl⟩,rfl⟩,by rw[List.length_set,el];show 10<m;omega,rfl,?_⟩;rw[EU,EU];rfl
 ·rw[if_neg hn,uL]at g1;rw[if_neg hn];exact⟨_,_,_,g1,Aa (λ_=>rfl) (λh=>by simp at h)⟩
theorem SR {n:Nat}(hn:24<=n)(hn2:n<=2048):Rt (BS n) []=true:=(Sl hn hn2).rt
theorem p52 (f:Fnd)(hw:WFits f.wd)(hr:(f.ring.length:Int)<=9223372036854775807):Runs A8 52 [FB f,FB f] [] (aB true) []:=by have g1:=p98 f.wd f.wd hw;rw[decide_eq_true rfl,Dp]at g1;have g2:=(((p99 f.ring hr).up Ea).up C5).up Gu;refine Ag (c:=c52) rfl rfl ?_;rw[FB,AEw,(AJn _ _ _ _ _ _ _ _ _ _ _ _ _ _ _ _ _ _ _ _ _ _ _).down];refine Aa (λ_=>TT ⟨_,g1,Aa (λ_=>⟨_,g2,rfl⟩) (λh=>by cases h)⟩) (λh=>by simp at h)
theorem p51 (s:Pw)(hf:Fits s.b s.p):Runs A8 51 [Cu s,Cu s] [] (aB true) []:=by have g:=(((p97 s.b s.p s.b s.p hf hf).up Ea).up C5).up Gu;rw[fJ,CK]at g;refine Ag (c:=c51) rfl rfl ?_;rw[Cu,AEy,(AJH _ _ _ _ _ _ _).down];exact TT ⟨_,g,rfl⟩
end Go.Proofs.YtjmpnbbeplgchabGreatDoor.M
