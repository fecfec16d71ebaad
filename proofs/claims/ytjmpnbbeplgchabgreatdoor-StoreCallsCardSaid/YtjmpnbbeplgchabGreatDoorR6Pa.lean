import Derived.Test.YtjmpnbbeplgchabGreatDoorR6Kb
import Derived.Test.YtjmpnbbeplgchabGreatDoorR6Bp
namespace Go.Proofs.YtjmpnbbeplgchabGreatDoor.M
set_option linter.unusedVariables false
set_option linter.unusedSimpArgs false
open Go Go.Mir
theorem ACp (n:Int)(h:0<=n/\n<256):IntKind.u8.wrap n=n:=by rw[KS];omega
theorem IF {a b:Int}(h:0<=a):Int.tdiv a b=a / b:=Int.tdiv_eq_ediv_of_nonneg h
theorem TO {a b:Int}(h:0<=a):Int.tmod a b=a % b:=Int.tmod_eq_emod_of_nonneg h
theorem p57 (l:List Bool)(hl:l.length<=4096):Runs A8 57 [.o (.sl 1 (Bk l))] [] (.n (.str (packS l))) []:=by
 refine Ag (c:=c57) rfl rfl ?_;have hM:Int.toNat (wI (Int.tdiv (wI ((l.length:Int)+7)) 8))=(l.length+7) / 8:=by rw[Ac ((l.length:Int)+7) (by omega),IF (by omega),Ac _ (by omega)];omega
 have hM0:0<=wI (Int.tdiv (wI ((l.length:Int)+7)) 8):=by rw[Ac ((l.length:Int)+7) (by omega),IF (by omega),Ac _ (by omega)];omega
 rw[AGd,(AJv _ _).down,AI,hM,Uz l];refine⟨by decide,hM0,by omega,λi r=>0<=i/\i<=l.length/\r=(0,Ff l i.toNat ((l.length+7) / 8)),λi _=>(l.length-i).toNat,⟨rfl,by decide,by omega,rfl⟩,?_⟩;rintro i _ ⟨h0,h1,rfl⟩ _;refine Ab (λhlt=>?_) (λhge=>?_)
 ·have hi:i.toNat<l.length:=by omega
  refine⟨rfl,h0,_,BU hi,_,rfl,?_⟩;rw[Ac (i+1) (by omega),IF h0,Ac (i / 8) (by omega),TO h0];have hj:(i / 8).toNat=i.toNat / 8:=by omega
  have hk:(i % 8).toNat=i.toNat % 8:=by omega
  have hj2:i.toNat / 8<(l.length+7) / 8:=by omega
  refine Aa (λhb=>?_) (λhb=>?_)
  ·rw[hj,hk,ZD];dsimp only;refine⟨by decide,⟨rfl,rfl⟩,by omega,by omega,⟨rfl,rfl⟩,_,aO hj2,_,rfl,by decide,by omega,⟨rfl,rfl⟩,by omega,by omega,⟨⟨⟨rfl,rfl⟩,rfl⟩,rfl⟩,hj2,?_⟩;repeat (refine And.intro rfl ?_)
   have hv:=Xa l (i.toNat / 8) (i.toNat % 8) (by omega);have hv2:M5 l (i.toNat / 8) (i.toNat % 8)<2 ^ (i.toNat % 8):=OW _ _;have hp:2 ^ (i.toNat % 8)<=2 ^ 7:=Nat.pow_le_pow_right (by decide) (by omega);have ob:=rE (i.toNat % 8) (by omega) ⟨M5 l (i.toNat / 8) (i.toNat % 8),hv⟩ hv2;have e8:min 8 (i.toNat-8*(i.toNat / 8))=i.toNat % 8:=by omega
   refine⟨⟨by omega,by omega,?_⟩,by first|omega|(dsimp only;omega)⟩;rw[show(i+1).toNat=i.toNat+1 by omega,WC (by rw[Dl hi];exact hb) hj2,e8];congr 4;refine Eq.trans (congrArg _ (congrArg _ ob)) ?_;rw[ACp _ (by dsimp only;omega)]
  ·repeat (refine And.intro rfl ?_)
   refine⟨⟨by omega,by omega,?_⟩,by first|omega|(dsimp only;omega)⟩;rw[show(i+1).toNat=i.toNat+1 by omega,aW (by rw[Dl hi];exact hb)]
 ·obtain rfl:i=l.length:=by omega
  rw[Int.toNat_natCast,XQ rfl];exact⟨rfl,.inl rfl,mE l _,rfl⟩
theorem Za (n:Nat):List.replicate n (D.bool false)=Bk (List.replicate n false):=by simp[Bk]
theorem YO (s:bA){n i:Nat}(h:i<n):((TA s i)++List.replicate (n-i) false).set i (Zo s i)=TA s (i+1)++List.replicate (n-(i+1)) false:=by rw[show n-i=(n-(i+1))+1 by omega,List.replicate_succ];unfold TA;rw[List.set_append_right _ _ (by simp)];simp[List.range_succ]
theorem fN {s:bA}{k:Nat}(h:k<s.size):s.data.toList[k]?=some (At s k):=by rw[At,IL];have:k<s.data.toList.length:=h;rw[gI this];rfl
theorem XZ (s:bA)(i:Nat):(IntKind.wrap .u8 (((BitVec.toNat (HAnd.hAnd (BitVec.ofInt 8 (Int.fdiv ((((At s (i / 8)).toNat):Nat):Int) (2 ^ (min (i % 8) 8)))) (BitVec.ofInt 8 1))):Nat):Int)==1)=Zo s i:=
 ZL (i % 8) (by omega) ⟨(At s (i / 8)).toNat,UInt8.toNat_lt _⟩
theorem p78 (s:bA)(hs:s.size<=1000000)(n:Int):Runs A8 78 [aS s,aI n] [] (.tup [aL (Bk (FC s n).1),aI (FC s n).2]) []:=by
 refine Ag (c:=c78) rfl rfl ?_;rw[AGa,(AEc _ _ _).down,FC];refine Ab (λh=>by rw[if_pos (.inl h)];rfl) (λh0=>Ab (λh=>by rw[if_pos (.inr h)];rfl) (λh1=>?_));rw[if_neg (by omega),Ac (n+7) (by omega),IF (by omega),Ac ((n+7) / 8) (by omega)];refine⟨by decide,Ab (λh=>by rw[if_pos (by omega)];rfl) (λh2=>?_)⟩;rw[if_neg (by omega)];refine⟨by omega,by omega,rfl,?_⟩;rw[Za,AI,List.length_replicate];refine⟨λi r=>0<=i/\i<=n/\r=(0,Bk (TA s i.toNat++List.replicate (n.toNat-i.toNat) false)),λi _=>(n-i).toNat,⟨rfl,by decide,by omega,by simp[TA]⟩,?_⟩;rintro i _ ⟨i0,i1,rfl⟩ _;refine Ab (λhlt=>?_) (λhge=>?_)
 ·have hj:i.toNat / 8<s.size:=by omega
  rw[IF i0,Ac (i / 8) (by omega),TO i0,show(i / 8).toNat=i.toNat / 8 by omega,show(i % 8).toNat=i.toNat % 8 by omega,Ac (i+1) (by omega)];refine⟨by decide,by omega,_,fN hj,by decide,by omega,⟨rfl,rfl⟩,i0,?_,⟨⟨⟨rfl,rfl⟩,rfl⟩,rfl⟩,?_,?_⟩;·rw[AI];simp[KH];omega
  ·rw[AI];simp[KH];omega
  repeat (refine And.intro rfl ?_)
  refine⟨⟨by omega,by omega,?_⟩,by first|omega|(dsimp only;omega)⟩;have e:=XZ s i.toNat;show(0,(Bk _).set _ (D.bool (IntKind.wrap .u8 _==1)))=_;rw[show Go.IntKind.bits .u8=8 from rfl,e,Ha,YO s (by omega),show(i+1).toNat=i.toNat+1 by omega]
 ·obtain rfl:i=n:=by omega
  have e:TA s i.toNat++List.replicate (i.toNat-i.toNat) false=TA s i.toNat:=by simp
  rw[e];refine⟨rfl,_,p57 _ (by rw[KH];omega),GL (λh=>?_) (λh=>⟨rfl,?_⟩)⟩;·rw[if_pos h];rfl
  ·rw[if_neg (by simpa using h)]
end Go.Proofs.YtjmpnbbeplgchabGreatDoor.M
