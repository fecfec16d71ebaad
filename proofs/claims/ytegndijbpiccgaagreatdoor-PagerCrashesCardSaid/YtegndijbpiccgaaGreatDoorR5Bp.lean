import Derived.Test.YtegndijbpiccgaaGreatDoorR5Eg
import Derived.Test.YtegndijbpiccgaaGreatDoorR5Dv
namespace Go.Proofs.YtegndijbpiccgaaGreatDoor.M
set_option linter.unusedVariables false
set_option linter.unusedSimpArgs false
open Go Go.Mir
def ID (f:Nat->Bool):Nat->Nat
 | 0=>0
 | k+1=>ID f k+2 ^ k*(f k).toNat
theorem OL (f:Nat->Bool):∀k,ID f k<2 ^ k
 | 0=>by rw[ID];decide
 | k+1=>by have h:=OL f k;have h2:=Bool.toNat_le (f k);have h3:2 ^ k*(f k).toNat<=2 ^ k:=Nat.le_trans (Nat.mul_le_mul_left _ h2) (by omega);rw[ID,Nat.pow_succ];omega
theorem nT (f:Nat->Bool):ID f 8=(f 0).toNat+2*(f 1).toNat+4*(f 2).toNat+8*(f 3).toNat+16*(f 4).toNat+32*(f 5).toNat+64*(f 6).toNat+128*(f 7).toNat:=by simp only[ID];omega
theorem Ze {P:Nat->Prop}(h0:P 0)(h1:P 1)(h2:P 2)(h3:P 3)(h4:P 4)(h5:P 5)(h6:P 6)(h7:P 7):∀k,k<8->P k
 | 0,_=>h0
 | 1,_=>h1
 | 2,_=>h2
 | 3,_=>h3
 | 4,_=>h4
 | 5,_=>h5
 | 6,_=>h6
 | 7,_=>h7
 | k+8,h=>by omega
theorem Xk (f:Nat->Bool):∀k,k<8->ID f 8 / 2 ^ k=2*(ID f 8 / 2 ^ (k+1))+(f k).toNat:=by have e:=nT f;have b0:=Bool.toNat_le (f 0);have b1:=Bool.toNat_le (f 1);have b2:=Bool.toNat_le (f 2);have b3:=Bool.toNat_le (f 3);have b4:=Bool.toNat_le (f 4);have b5:=Bool.toNat_le (f 5);have b6:=Bool.toNat_le (f 6);have b7:=Bool.toNat_le (f 7);apply Ze<;>simp only[Nat.reducePow,Nat.reduceAdd]<;>omega
theorem Wb (f:Nat->Bool)(k:Nat)(h:k<8):ID f 8 / 2 ^ k % 2=(f k).toNat:=by have h1:=Xk f k h;have h2:=Bool.toNat_le (f k);omega
def Nn (l:List Bool)(j n:Nat):Nat:=ID (λk=>tr l (8*j+k)) n
def fY (l:List Bool)(m:Nat):List Mir.D:=(List.range m).map λj => .int .u8 (Nn l j 8:Nat)
def packS (l:List Bool):bA:=Cy (fY l ((l.length+7) / 8))
theorem Yq (l:List Bool)(j n:Nat)(h:n<=8):Nn l j n<256:=Nat.lt_of_lt_of_le (OL _ n) (Nat.pow_le_pow_right (n:=2) (by decide) h)
theorem bU (l:List Bool)(m:Nat):(fY l m).length=m:=by simp[fY]
theorem rA (l:List Bool)(m:Nat):List.all (fY l m) D.isU8=true:=by rw[List.all_eq_true];intro x hx;obtain⟨j,_,rfl⟩:=List.mem_map.1 hx;rfl
theorem MB (l:List Bool):(packS l).size=(l.length+7) / 8:=by rw[packS,BR,bU]
theorem Zv (l:List Bool)(j:Nat)(h:j<(l.length+7) / 8):(packS l).data.toList[j]?=some (UInt8.ofNat (Nn l j 8)):=by rw[packS,Dv,fY];simp only[List.getElem?_map,List.getElem?_range h,Option.map_some];rfl
def Fx (l:List Bool)(i M:Nat):List Mir.D:=(List.range M).map λj => .int .u8 (Nn l j (min 8 (i-8*j)):Nat)
theorem Wk (l:List Bool)(i M:Nat):(Fx l i M).length=M:=by simp[Fx]
theorem Vn (l:List Bool)(M:Nat):List.replicate M (D.int .u8 0)=Fx l 0 M:=by refine List.ext_getElem (by simp[Fx]) λj h1 h2=>?_;simp[Fx,Nn,ID]
theorem aA {l:List Bool}{i M j:Nat}(h:j<M):(Fx l i M)[j]?=some (.int .u8 (Nn l j (min 8 (i-8*j)):Nat)):=by simp[Fx,h]
theorem Y6 {l:List Bool}{M:Nat}(hM:M=(l.length+7) / 8):Fx l l.length M=fY l M:=by
 refine List.ext_getElem (by simp[Fx,fY]) λj h1 h2=>?_;simp only[Fx,fY,List.getElem_map,List.getElem_range];have hj:j<M:=by simpa[Fx] using h1
 congr 2;by_cases h:8*j+8<=l.length;·rw[show min 8 (l.length-8*j)=8 by omega]
 ·have out:∀d,Nn l j (l.length-8*j+d)=Nn l j (l.length-8*j):=by
   intro d
   induction d with
   | zero=>rfl
   | succ d ih=> rw[<-Nat.add_assoc,Nn,ID];have:tr l (8*j+(l.length-8*j+d))=false:=Yd (by omega);rw[this];exact ih
  have:=out (8-(l.length-8*j));rw[show min 8 (l.length-8*j)=l.length-8*j by omega];rw[show l.length-8*j+(8-(l.length-8*j))=8 by omega]at this;exact this.symm
theorem aC {l:List Bool}{i M:Nat}(h:tr l i=false):Fx l (i+1) M=Fx l i M:=by
 refine List.ext_getElem (by simp[Fx]) λj h1 h2=>?_;simp only[Fx,List.getElem_map,List.getElem_range];congr 2;by_cases h3:i<8*j;·rw[show i+1-8*j=0 by omega,show i-8*j=0 by omega]
 ·by_cases h4:8*j+8<=i;·rw[show min 8 (i+1-8*j)=8 by omega,show min 8 (i-8*j)=8 by omega]
  ·rw[show min 8 (i+1-8*j)=(i-8*j)+1 by omega,show min 8 (i-8*j)=i-8*j by omega,Nn,ID,show 8*j+(i-8*j)=i by omega,h];simp[Nn]
theorem XU {l:List Bool}{i M:Nat}(h:tr l i=true)(hM:i / 8<M):Fx l (i+1) M=(Fx l i M).set (i / 8) (.int .u8 (Nn l (i / 8) (i % 8)+2 ^ (i % 8):Nat)):=by
 refine List.ext_getElem (by simp[Fx]) λj h1 h2=>?_;rw[List.getElem_set];simp only[Fx,List.getElem_map,List.getElem_range];by_cases h3:i / 8=j;·rw[if_pos h3];subst h3;congr 2;rw[show min 8 (i+1-8*(i / 8))=i % 8+1 by omega,Nn,ID,show 8*(i / 8)+i % 8=i by omega,h];simp[Nn]
 ·rw[if_neg h3];congr 2;by_cases h4:i<8*j;·rw[show i+1-8*j=0 by omega,show i-8*j=0 by omega]
  ·rw[show min 8 (i+1-8*j)=8 by omega,show min 8 (i-8*j)=8 by omega]
theorem mF:∀k,k<8->∀x:Fin 256,x.val<2 ^ k->(BitVec.ofInt 8 (x.val:Int) ||| BitVec.ofInt 8 (IntKind.u8.wrap (1*2 ^ (min k 8)))).toNat=x.val+2 ^ k:=by apply Ze<;>decide +kernel
theorem YO:∀k,k<8->∀x:Fin 256,(IntKind.wrap .u8 (((BitVec.toNat (HAnd.hAnd (BitVec.ofInt 8 (Int.fdiv (x.val:Int) (2 ^ (min k 8)))) (BitVec.ofInt 8 1))):Nat):Int)==1)=(x.val / 2 ^ k % 2==1):=by apply Ze<;>decide +kernel
def Wn (s:bA)(i:Nat):Bool:=(At s (i / 8)).toNat / 2 ^ (i % 8) % 2==1
def TZ (s:bA)(n:Nat):List Bool:=(List.range n).map (Wn s)
theorem Kz (s:bA)(n:Nat):(TZ s n).length=n:=by simp[TZ]
noncomputable def F7 (s:bA)(n:Int):List Bool×Int:=
 if n<0\/n > 2048 then ([],1) else if 8*(s.size:Int)<n then ([],3) else if packS (TZ s n.toNat)≠s then ([],4) else (TZ s n.toNat,0)
theorem VI {l:List Bool}{i:Nat}(h:i<l.length):Wn (packS l) i=l[i]:=by
 have h2:i / 8<(l.length+7) / 8:=by omega
 rw[Wn,At,Jf,Zv l _ h2];show((UInt8.ofNat (Nn l (i / 8) 8)).toNat / 2 ^ (i % 8) % 2==1)=_;have h3:=Yq l (i / 8) 8 (by omega);rw[show(UInt8.ofNat (Nn l (i / 8) 8)).toNat=Nn l (i / 8) 8 by simp;omega,Nn,Wb _ _ (by omega),show 8*(i / 8)+i % 8=i by omega,DN h];cases l[i]<;>rfl
theorem XJ (l:List Bool):TZ (packS l) l.length=l:=by refine List.ext_getElem (by simp[TZ]) λj h1 h2=>?_;simp only[TZ,List.getElem_map,List.getElem_range];exact VI h2
theorem ZC {l:List Bool}(h:l.length<=2048):F7 (packS l) l.length=(l,0):=by have h1:=MB l;rw[F7,if_neg (by omega),if_neg (by rw[h1];omega),Int.toNat_natCast,XJ,if_neg (by simp)]
theorem eO {s:bA}{n:Int}(h:(F7 s n).2=0):((F7 s n).1.length:Int)=n/\0<=n/\n<=2048:=by
 unfold F7 at h |-;split at h;·cases h
 ·rename_i h1;rw[if_neg h1];split at h;·cases h
  ·rename_i h2;rw[if_neg h2];split at h;·cases h
   ·rename_i h3;rw[if_neg h3,Kz];omega
end Go.Proofs.YtegndijbpiccgaaGreatDoor.M
