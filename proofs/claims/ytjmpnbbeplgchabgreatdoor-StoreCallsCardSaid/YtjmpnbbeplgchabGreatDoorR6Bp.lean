import Derived.Test.YtjmpnbbeplgchabGreatDoorR6Eg
import Derived.Test.YtjmpnbbeplgchabGreatDoorR6Dv
namespace Go.Proofs.YtjmpnbbeplgchabGreatDoor.M
set_option linter.unusedVariables false
set_option linter.unusedSimpArgs false
open Go Go.Mir
def IE (f:Nat->Bool):Nat->Nat
 | 0=>0
 | k+1=>IE f k+2 ^ k*(f k).toNat
theorem OW (f:Nat->Bool):∀k,IE f k<2 ^ k
 | 0=>by rw[IE];decide
 | k+1=>by have h:=OW f k;have h2:=Bool.toNat_le (f k);have h3:2 ^ k*(f k).toNat<=2 ^ k:=Nat.le_trans (Nat.mul_le_mul_left _ h2) (by omega);rw[IE,Nat.pow_succ];omega
theorem jM (f:Nat->Bool):IE f 8=(f 0).toNat+2*(f 1).toNat+4*(f 2).toNat+8*(f 3).toNat+16*(f 4).toNat+32*(f 5).toNat+64*(f 6).toNat+128*(f 7).toNat:=by simp only[IE];omega
theorem YM {P:Nat->Prop}(h0:P 0)(h1:P 1)(h2:P 2)(h3:P 3)(h4:P 4)(h5:P 5)(h6:P 6)(h7:P 7):∀k,k<8->P k
 | 0,_=>h0
 | 1,_=>h1
 | 2,_=>h2
 | 3,_=>h3
 | 4,_=>h4
 | 5,_=>h5
 | 6,_=>h6
 | 7,_=>h7
 | k+8,h=>by omega
theorem YX (f:Nat->Bool):∀k,k<8->IE f 8 / 2 ^ k=2*(IE f 8 / 2 ^ (k+1))+(f k).toNat:=by have e:=jM f;have b0:=Bool.toNat_le (f 0);have b1:=Bool.toNat_le (f 1);have b2:=Bool.toNat_le (f 2);have b3:=Bool.toNat_le (f 3);have b4:=Bool.toNat_le (f 4);have b5:=Bool.toNat_le (f 5);have b6:=Bool.toNat_le (f 6);have b7:=Bool.toNat_le (f 7);apply YM<;>simp only[Nat.reducePow,Nat.reduceAdd]<;>omega
theorem Xd (f:Nat->Bool)(k:Nat)(h:k<8):IE f 8 / 2 ^ k % 2=(f k).toNat:=by have h1:=YX f k h;have h2:=Bool.toNat_le (f k);omega
def M5 (l:List Bool)(j n:Nat):Nat:=IE (λk=>tr l (8*j+k)) n
def jE (l:List Bool)(m:Nat):List Mir.D:=(List.range m).map λj => .int .u8 (M5 l j 8:Nat)
def packS (l:List Bool):bA:=BZ (jE l ((l.length+7) / 8))
theorem Xa (l:List Bool)(j n:Nat)(h:n<=8):M5 l j n<256:=Nat.lt_of_lt_of_le (OW _ n) (Nat.pow_le_pow_right (n:=2) (by decide) h)
theorem aE (l:List Bool)(m:Nat):(jE l m).length=m:=by simp[jE]
theorem mE (l:List Bool)(m:Nat):List.all (jE l m) D.isU8=true:=by rw[List.all_eq_true];intro x hx;obtain⟨j,_,rfl⟩:=List.mem_map.1 hx;rfl
theorem Mg (l:List Bool):(packS l).size=(l.length+7) / 8:=by rw[packS,Bo,aE]
theorem Xv (l:List Bool)(j:Nat)(h:j<(l.length+7) / 8):(packS l).data.toList[j]?=some (UInt8.ofNat (M5 l j 8)):=by rw[packS,C3,jE];simp only[List.getElem?_map,List.getElem?_range h,Option.map_some];rfl
def Ff (l:List Bool)(i M:Nat):List Mir.D:=(List.range M).map λj => .int .u8 (M5 l j (min 8 (i-8*j)):Nat)
theorem ZD (l:List Bool)(i M:Nat):(Ff l i M).length=M:=by simp[Ff]
theorem Uz (l:List Bool)(M:Nat):List.replicate M (D.int .u8 0)=Ff l 0 M:=by refine List.ext_getElem (by simp[Ff]) λj h1 h2=>?_;simp[Ff,M5,IE]
theorem aO {l:List Bool}{i M j:Nat}(h:j<M):(Ff l i M)[j]?=some (.int .u8 (M5 l j (min 8 (i-8*j)):Nat)):=by simp[Ff,h]
theorem XQ {l:List Bool}{M:Nat}(hM:M=(l.length+7) / 8):Ff l l.length M=jE l M:=by
 refine List.ext_getElem (by simp[Ff,jE]) λj h1 h2=>?_;simp only[Ff,jE,List.getElem_map,List.getElem_range];have hj:j<M:=by simpa[Ff] using h1
 congr 2;by_cases h:8*j+8<=l.length;·rw[show min 8 (l.length-8*j)=8 by omega]
 ·have out:∀d,M5 l j (l.length-8*j+d)=M5 l j (l.length-8*j):=by
   intro d
   induction d with
   | zero=>rfl
   | succ d ih=> rw[<-Nat.add_assoc,M5,IE];have:tr l (8*j+(l.length-8*j+d))=false:=Xu (by omega);rw[this];exact ih
  have:=out (8-(l.length-8*j));rw[show min 8 (l.length-8*j)=l.length-8*j by omega];rw[show l.length-8*j+(8-(l.length-8*j))=8 by omega]at this;exact this.symm
theorem aW {l:List Bool}{i M:Nat}(h:tr l i=false):Ff l (i+1) M=Ff l i M:=by
 refine List.ext_getElem (by simp[Ff]) λj h1 h2=>?_;simp only[Ff,List.getElem_map,List.getElem_range];congr 2;by_cases h3:i<8*j;·rw[show i+1-8*j=0 by omega,show i-8*j=0 by omega]
 ·by_cases h4:8*j+8<=i;·rw[show min 8 (i+1-8*j)=8 by omega,show min 8 (i-8*j)=8 by omega]
  ·rw[show min 8 (i+1-8*j)=(i-8*j)+1 by omega,show min 8 (i-8*j)=i-8*j by omega,M5,IE,show 8*j+(i-8*j)=i by omega,h];simp[M5]
theorem WC {l:List Bool}{i M:Nat}(h:tr l i=true)(hM:i / 8<M):Ff l (i+1) M=(Ff l i M).set (i / 8) (.int .u8 (M5 l (i / 8) (i % 8)+2 ^ (i % 8):Nat)):=by
 refine List.ext_getElem (by simp[Ff]) λj h1 h2=>?_;rw[List.getElem_set];simp only[Ff,List.getElem_map,List.getElem_range];by_cases h3:i / 8=j;·rw[if_pos h3];subst h3;congr 2;rw[show min 8 (i+1-8*(i / 8))=i % 8+1 by omega,M5,IE,show 8*(i / 8)+i % 8=i by omega,h];simp[M5]
 ·rw[if_neg h3];congr 2;by_cases h4:i<8*j;·rw[show i+1-8*j=0 by omega,show i-8*j=0 by omega]
  ·rw[show min 8 (i+1-8*j)=8 by omega,show min 8 (i-8*j)=8 by omega]
theorem rE:∀k,k<8->∀x:Fin 256,x.val<2 ^ k->(BitVec.ofInt 8 (x.val:Int) ||| BitVec.ofInt 8 (IntKind.u8.wrap (1*2 ^ (min k 8)))).toNat=x.val+2 ^ k:=by apply YM<;>decide +kernel
theorem ZL:∀k,k<8->∀x:Fin 256,(IntKind.wrap .u8 (((BitVec.toNat (HAnd.hAnd (BitVec.ofInt 8 (Int.fdiv (x.val:Int) (2 ^ (min k 8)))) (BitVec.ofInt 8 1))):Nat):Int)==1)=(x.val / 2 ^ k % 2==1):=by apply YM<;>decide +kernel
def Zo (s:bA)(i:Nat):Bool:=(At s (i / 8)).toNat / 2 ^ (i % 8) % 2==1
def TA (s:bA)(n:Nat):List Bool:=(List.range n).map (Zo s)
theorem KH (s:bA)(n:Nat):(TA s n).length=n:=by simp[TA]
noncomputable def FC (s:bA)(n:Int):List Bool×Int:=
 if n<0\/n > 2048 then ([],1) else if 8*(s.size:Int)<n then ([],3) else if packS (TA s n.toNat)≠s then ([],4) else (TA s n.toNat,0)
theorem V6 {l:List Bool}{i:Nat}(h:i<l.length):Zo (packS l) i=l[i]:=by
 have h2:i / 8<(l.length+7) / 8:=by omega
 rw[Zo,At,IL,Xv l _ h2];show((UInt8.ofNat (M5 l (i / 8) 8)).toNat / 2 ^ (i % 8) % 2==1)=_;have h3:=Xa l (i / 8) 8 (by omega);rw[show(UInt8.ofNat (M5 l (i / 8) 8)).toNat=M5 l (i / 8) 8 by simp;omega,M5,Xd _ _ (by omega),show 8*(i / 8)+i % 8=i by omega,Dl h];cases l[i]<;>rfl
theorem ZY (l:List Bool):TA (packS l) l.length=l:=by refine List.ext_getElem (by simp[TA]) λj h1 h2=>?_;simp only[TA,List.getElem_map,List.getElem_range];exact V6 h2
theorem X5 {l:List Bool}(h:l.length<=2048):FC (packS l) l.length=(l,0):=by have h1:=Mg l;rw[FC,if_neg (by omega),if_neg (by rw[h1];omega),Int.toNat_natCast,ZY,if_neg (by simp)]
theorem aX {s:bA}{n:Int}(h:(FC s n).2=0):((FC s n).1.length:Int)=n/\0<=n/\n<=2048:=by
 unfold FC at h |-;split at h;·cases h
 ·rename_i h1;rw[if_neg h1];split at h;·cases h
  ·rename_i h2;rw[if_neg h2];split at h;·cases h
   ·rename_i h3;rw[if_neg h3,KH];omega
end Go.Proofs.YtjmpnbbeplgchabGreatDoor.M
