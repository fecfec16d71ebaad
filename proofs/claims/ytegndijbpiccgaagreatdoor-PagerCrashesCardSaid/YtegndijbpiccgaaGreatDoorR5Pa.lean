import Derived.Test.YtegndijbpiccgaaGreatDoorR5Kb
import Derived.Test.YtegndijbpiccgaaGreatDoorR5Bp
namespace Go.Proofs.YtegndijbpiccgaaGreatDoor.M
set_option linter.unusedVariables false
set_option linter.unusedSimpArgs false
open Go Go.Mir
theorem wA (n:Int)(h:0<=n/\n<256):IntKind.u8.wrap n=n:=by rw[Kw];omega
theorem I8 {a b:Int}(h:0<=a):Int.tdiv a b=a / b:=Int.tdiv_eq_ediv_of_nonneg h
theorem T7 {a b:Int}(h:0<=a):Int.tmod a b=a % b:=Int.tmod_eq_emod_of_nonneg h
theorem p37 (l:List Bool)(hl:l.length<=4096):Runs A5 37 [.o (.sl 1 (Bg l))] [] (.n (.str (packS l))) []:=by
 refine An (c:=c37) rfl rfl ?_;have hM:Int.toNat (w6 (Int.tdiv (w6 ((l.length:Int)+7)) 8))=(l.length+7) / 8:=by rw[Ad ((l.length:Int)+7) (by omega),I8 (by omega),Ad _ (by omega)];omega
 have hM0:0<=w6 (Int.tdiv (w6 ((l.length:Int)+7)) 8):=by rw[Ad ((l.length:Int)+7) (by omega),I8 (by omega),Ad _ (by omega)];omega
 rw[AEe,(ADd _ _).down,AH,hM,Vn l];refine⟨by decide,hM0,by omega,λi r=>0<=i/\i<=l.length/\r=(0,Fx l i.toNat ((l.length+7) / 8)),λi _=>(l.length-i).toNat,⟨rfl,by decide,by omega,rfl⟩,?_⟩;rintro i _ ⟨h0,h1,rfl⟩ _;refine Ab (λhlt=>?_) (λhge=>?_)
 ·have hi:i.toNat<l.length:=by omega
  refine⟨rfl,h0,_,Cg hi,_,rfl,?_⟩;rw[Ad (i+1) (by omega),I8 h0,Ad (i / 8) (by omega),T7 h0];have hj:(i / 8).toNat=i.toNat / 8:=by omega
  have hk:(i % 8).toNat=i.toNat % 8:=by omega
  have hj2:i.toNat / 8<(l.length+7) / 8:=by omega
  refine Aa (λhb=>?_) (λhb=>?_)
  ·rw[hj,hk,Wk];dsimp only;refine⟨by decide,⟨rfl,rfl⟩,by omega,by omega,⟨rfl,rfl⟩,_,aA hj2,_,rfl,by decide,by omega,⟨rfl,rfl⟩,by omega,by omega,⟨⟨⟨rfl,rfl⟩,rfl⟩,rfl⟩,hj2,?_⟩;repeat (refine And.intro rfl ?_)
   have hv:=Yq l (i.toNat / 8) (i.toNat % 8) (by omega);have hv2:Nn l (i.toNat / 8) (i.toNat % 8)<2 ^ (i.toNat % 8):=OL _ _;have hp:2 ^ (i.toNat % 8)<=2 ^ 7:=Nat.pow_le_pow_right (by decide) (by omega);have ob:=mF (i.toNat % 8) (by omega) ⟨Nn l (i.toNat / 8) (i.toNat % 8),hv⟩ hv2;have e8:min 8 (i.toNat-8*(i.toNat / 8))=i.toNat % 8:=by omega
   refine⟨⟨by omega,by omega,?_⟩,by first|omega|(dsimp only;omega)⟩;rw[show(i+1).toNat=i.toNat+1 by omega,XU (by rw[DN hi];exact hb) hj2,e8];congr 4;refine Eq.trans (congrArg _ (congrArg _ ob)) ?_;rw[wA _ (by dsimp only;omega)]
  ·repeat (refine And.intro rfl ?_)
   refine⟨⟨by omega,by omega,?_⟩,by first|omega|(dsimp only;omega)⟩;rw[show(i+1).toNat=i.toNat+1 by omega,aC (by rw[DN hi];exact hb)]
 ·obtain rfl:i=l.length:=by omega
  rw[Int.toNat_natCast,Y6 rfl];exact⟨rfl,.inl rfl,rA l _,rfl⟩
theorem Yr (n:Nat):List.replicate n (D.bool false)=Bg (List.replicate n false):=by simp[Bg]
theorem Wx (s:bA){n i:Nat}(h:i<n):((TZ s i)++List.replicate (n-i) false).set i (Wn s i)=TZ s (i+1)++List.replicate (n-(i+1)) false:=by rw[show n-i=(n-(i+1))+1 by omega,List.replicate_succ];unfold TZ;rw[List.set_append_right _ _ (by simp)];simp[List.range_succ]
theorem eJ {s:bA}{k:Nat}(h:k<s.size):s.data.toList[k]?=some (At s k):=by rw[At,Jf];have:k<s.data.toList.length:=h;rw[gI this];rfl
theorem YJ (s:bA)(i:Nat):(IntKind.wrap .u8 (((BitVec.toNat (HAnd.hAnd (BitVec.ofInt 8 (Int.fdiv ((((At s (i / 8)).toNat):Nat):Int) (2 ^ (min (i % 8) 8)))) (BitVec.ofInt 8 1))):Nat):Int)==1)=Wn s i:=
 YO (i % 8) (by omega) ⟨(At s (i / 8)).toNat,UInt8.toNat_lt _⟩
theorem p91 (s:bA)(hs:s.size<=1000000)(n:Int):Runs A5 91 [aS s,aI n] [] (.tup [aL (Bg (F7 s n).1),aI (F7 s n).2]) []:=by
 refine An (c:=c91) rfl rfl ?_;rw[AEc,(AGl _ _ _).down,F7];refine Ab (λh=>by rw[if_pos (.inl h)];rfl) (λh0=>Ab (λh=>by rw[if_pos (.inr h)];rfl) (λh1=>?_));rw[if_neg (by omega),Ad (n+7) (by omega),I8 (by omega),Ad ((n+7) / 8) (by omega)];refine⟨by decide,Ab (λh=>by rw[if_pos (by omega)];rfl) (λh2=>?_)⟩;rw[if_neg (by omega)];refine⟨by omega,by omega,rfl,?_⟩;rw[Yr,AH,List.length_replicate];refine⟨λi r=>0<=i/\i<=n/\r=(0,Bg (TZ s i.toNat++List.replicate (n.toNat-i.toNat) false)),λi _=>(n-i).toNat,⟨rfl,by decide,by omega,by simp[TZ]⟩,?_⟩;rintro i _ ⟨i0,i1,rfl⟩ _;refine Ab (λhlt=>?_) (λhge=>?_)
 ·have hj:i.toNat / 8<s.size:=by omega
  rw[I8 i0,Ad (i / 8) (by omega),T7 i0,show(i / 8).toNat=i.toNat / 8 by omega,show(i % 8).toNat=i.toNat % 8 by omega,Ad (i+1) (by omega)];refine⟨by decide,by omega,_,eJ hj,by decide,by omega,⟨rfl,rfl⟩,i0,?_,⟨⟨⟨rfl,rfl⟩,rfl⟩,rfl⟩,?_,?_⟩;·rw[AH];simp[Kz];omega
  ·rw[AH];simp[Kz];omega
  repeat (refine And.intro rfl ?_)
  refine⟨⟨by omega,by omega,?_⟩,by first|omega|(dsimp only;omega)⟩;have e:=YJ s i.toNat;show(0,(Bg _).set _ (D.bool (IntKind.wrap .u8 _==1)))=_;rw[show Go.IntKind.bits .u8=8 from rfl,e,Hp,Wx s (by omega),show(i+1).toNat=i.toNat+1 by omega]
 ·obtain rfl:i=n:=by omega
  have e:TZ s i.toNat++List.replicate (i.toNat-i.toNat) false=TZ s i.toNat:=by simp
  rw[e];refine⟨rfl,_,p37 _ (by rw[Kz];omega),GQ (λh=>?_) (λh=>⟨rfl,?_⟩)⟩;·rw[if_pos h];rfl
  ·rw[if_neg (by simpa using h)]
end Go.Proofs.YtegndijbpiccgaaGreatDoor.M
