import Derived.Test.YtegndijbpiccgaaGreatDoorR5EdZ
import Derived.Test.YtegndijbpiccgaaGreatDoorR5Dv
namespace Go.Proofs.YtegndijbpiccgaaGreatDoor.M
set_option linter.unusedVariables false
set_option linter.unusedSimpArgs false
open Go Go.Mir
set_option linter.unusedVariables false
def lowN (f:Nat→Bool):Nat→Nat
 | 0=>0
 | k+1=>lowN f k+2 ^ k*(f k).toNat
theorem lowN_lt (f:Nat→Bool):∀k,lowN f k<2 ^ k
 | 0=>by rw[lowN];decide
 | k+1=>by
   have h:=lowN_lt f k
   have h2:=Bool.toNat_le (f k)
   have h3:2 ^ k*(f k).toNat≤2 ^ k:=Nat.le_trans (Nat.mul_le_mul_left _ h2) (by omega)
   rw[lowN,Nat.pow_succ]
   omega
theorem lowN_8 (f:Nat→Bool):lowN f 8=(f 0).toNat+2*(f 1).toNat+4*(f 2).toNat+8*(f 3).toNat+16*(f 4).toNat+32*(f 5).toNat+64*(f 6).toNat+128*(f 7).toNat:=by
 simp only[lowN];omega
theorem eight {P:Nat→Prop} (h0:P 0) (h1:P 1) (h2:P 2) (h3:P 3) (h4:P 4) (h5:P 5) (h6:P 6) (h7:P 7):∀k,k<8→P k
 | 0,_=>h0
 | 1,_=>h1
 | 2,_=>h2
 | 3,_=>h3
 | 4,_=>h4
 | 5,_=>h5
 | 6,_=>h6
 | 7,_=>h7
 | k+8,h=>by omega
theorem lowN_top (f:Nat→Bool):∀k,k<8→lowN f 8 / 2 ^ k=2*(lowN f 8 / 2 ^ (k+1))+(f k).toNat:=by
 have e:=lowN_8 f
 have b0:=Bool.toNat_le (f 0);have b1:=Bool.toNat_le (f 1);have b2:=Bool.toNat_le (f 2);have b3:=Bool.toNat_le (f 3)
 have b4:=Bool.toNat_le (f 4);have b5:=Bool.toNat_le (f 5);have b6:=Bool.toNat_le (f 6);have b7:=Bool.toNat_le (f 7)
 apply eight <;> simp only[Nat.reducePow,Nat.reduceAdd] <;> omega
theorem lowN_bit (f:Nat→Bool) (k:Nat) (h:k<8):lowN f 8 / 2 ^ k % 2=(f k).toNat:=by
 have h1:=lowN_top f k h
 have h2:=Bool.toNat_le (f k)
 omega
def byB (l:List Bool) (j n:Nat):Nat:=lowN (fun k=>tr l (8*j+k)) n
def pkD (l:List Bool) (m:Nat):List Mir.D:=(List.range m).map fun j => .int .u8 (byB l j 8:Nat)
def packS (l:List Bool):ByteArray:=strOf (pkD l ((l.length+7) / 8))
theorem byB_lt (l:List Bool) (j n:Nat) (h:n≤8):byB l j n<256:=Nat.lt_of_lt_of_le (lowN_lt _ n) (Nat.pow_le_pow_right (n:=2) (by decide) h)
theorem pkD_succ (l:List Bool) (m:Nat):pkD l (m+1)=pkD l m++[.int .u8 (byB l m 8:Nat)]:=by simp[pkD,List.range_succ]
theorem pkD_len (l:List Bool) (m:Nat):(pkD l m).length=m:=by simp[pkD]
theorem pkD_u8 (l:List Bool) (m:Nat):List.all (pkD l m) D.isU8=true:=by
 rw[List.all_eq_true]
 intro x hx
 obtain ⟨j,_,rfl⟩:=List.mem_map.1 hx
 rfl
theorem packS_size (l:List Bool):(packS l).size=(l.length+7) / 8:=by rw[packS,strOf_size,pkD_len]
theorem packS_at (l:List Bool) (j:Nat) (h:j<(l.length+7) / 8):(packS l).data.toList[j]?=some (UInt8.ofNat (byB l j 8)):=by
 rw[packS,strOf_data,pkD]
 simp only[List.getElem?_map,List.getElem?_range h,Option.map_some]
 rfl
def pkUp (l:List Bool) (i M:Nat):List Mir.D:=(List.range M).map fun j => .int .u8 (byB l j (min 8 (i - 8*j)):Nat)
theorem pkUp_len (l:List Bool) (i M:Nat):(pkUp l i M).length=M:=by simp[pkUp]
theorem pkUp_zero (l:List Bool) (M:Nat):List.replicate M (D.int .u8 0)=pkUp l 0 M:=by
 refine List.ext_getElem (by simp[pkUp]) fun j h1 h2 => ?_
 simp[pkUp,byB,lowN]
theorem pkUp_at {l:List Bool} {i M j:Nat} (h:j<M):(pkUp l i M)[j]?=some (.int .u8 (byB l j (min 8 (i - 8*j)):Nat)):=by simp[pkUp,h]
theorem pkUp_all {l:List Bool} {M:Nat} (hM:M=(l.length+7) / 8):pkUp l l.length M=pkD l M:=by
 refine List.ext_getElem (by simp[pkUp,pkD]) fun j h1 h2 => ?_
 simp only[pkUp,pkD,List.getElem_map,List.getElem_range]
 have hj:j<M:=by simpa[pkUp] using h1
 congr 2
 by_cases h:8*j+8≤l.length
 · rw[show min 8 (l.length - 8*j)=8 by omega]
 · have out:∀d,byB l j (l.length - 8*j+d)=byB l j (l.length - 8*j):=by
    intro d
    induction d with
    | zero=>rfl
    | succ d ih=>
      rw[←Nat.add_assoc,byB,lowN]
      have:tr l (8*j+(l.length - 8*j+d))=false:=tr_out (by omega)
      rw[this]
      exact ih
   have:=out (8 - (l.length - 8*j))
   rw[show min 8 (l.length - 8*j)=l.length - 8*j by omega]
   rw[show l.length - 8*j+(8 - (l.length - 8*j))=8 by omega]at this
   exact this.symm
theorem pkUp_no {l:List Bool} {i M:Nat} (h:tr l i=false):pkUp l (i+1) M=pkUp l i M:=by
 refine List.ext_getElem (by simp[pkUp]) fun j h1 h2 => ?_
 simp only[pkUp,List.getElem_map,List.getElem_range]
 congr 2
 by_cases h3:i<8*j
 · rw[show i+1 - 8*j=0 by omega,show i - 8*j=0 by omega]
 · by_cases h4:8*j+8≤i
   · rw[show min 8 (i+1 - 8*j)=8 by omega,show min 8 (i - 8*j)=8 by omega]
   · rw[show min 8 (i+1 - 8*j)=(i - 8*j)+1 by omega,show min 8 (i - 8*j)=i - 8*j by omega,byB,lowN,show 8*j+(i - 8*j)=i by omega,h]
     simp[byB]
theorem pkUp_yes {l:List Bool} {i M:Nat} (h:tr l i=true) (hM:i / 8<M):pkUp l (i+1) M=(pkUp l i M).set (i / 8) (.int .u8 (byB l (i / 8) (i % 8)+2 ^ (i % 8):Nat)):=by
 refine List.ext_getElem (by simp[pkUp]) fun j h1 h2 => ?_
 rw[List.getElem_set]
 simp only[pkUp,List.getElem_map,List.getElem_range]
 by_cases h3:i / 8=j
 · rw[if_pos h3]
   subst h3
   congr 2
   rw[show min 8 (i+1 - 8*(i / 8))=i % 8+1 by omega,byB,lowN,show 8*(i / 8)+i % 8=i by omega,h]
   simp[byB]
 · rw[if_neg h3]
   congr 2
   by_cases h4:i<8*j
   · rw[show i+1 - 8*j=0 by omega,show i - 8*j=0 by omega]
   · rw[show min 8 (i+1 - 8*j)=8 by omega,show min 8 (i - 8*j)=8 by omega]
theorem or_bit:∀k,k<8→∀x:Fin 256,x.val<2 ^ k→(BitVec.ofInt 8 (x.val:Int) ||| BitVec.ofInt 8 (IntKind.u8.wrap (1*2 ^ (min k 8)))).toNat=x.val+2 ^ k:=by
 apply eight <;> decide +kernel
theorem and_bitQ:∀k,k<8→∀x:Fin 256,(IntKind.wrap .u8 (((BitVec.toNat (HAnd.hAnd (BitVec.ofInt 8 (Int.fdiv (x.val:Int) (2 ^ (min k 8)))) (BitVec.ofInt 8 1))):Nat):Int)==1)=(x.val / 2 ^ k % 2==1):=by
 apply eight <;> decide +kernel
def sbit (s:ByteArray) (i:Nat):Bool:=(At s (i / 8)).toNat / 2 ^ (i % 8) % 2==1
def unb (s:ByteArray) (n:Nat):List Bool:=(List.range n).map (sbit s)
theorem unb_len (s:ByteArray) (n:Nat):(unb s n).length=n:=by simp[unb]
noncomputable def UnpR (s:ByteArray) (n:Int):List Bool×Int:=
 if n<0∨n > 2048 then ([],1) else if 8*(s.size:Int)<n then ([],3) else if packS (unb s n.toNat)≠s then ([],4) else (unb s n.toNat,0)
theorem sbit_pack {l:List Bool} {i:Nat} (h:i<l.length):sbit (packS l) i=l[i]:=by
 have h2:i / 8<(l.length+7) / 8:=by omega
 rw[sbit,At,atL,packS_at l _ h2]
 show ((UInt8.ofNat (byB l (i / 8) 8)).toNat / 2 ^ (i % 8) % 2==1)=_
 have h3:=byB_lt l (i / 8) 8 (by omega)
 rw[show (UInt8.ofNat (byB l (i / 8) 8)).toNat=byB l (i / 8) 8 by simp;omega,byB,lowN_bit _ _ (by omega),show 8*(i / 8)+i % 8=i by omega,tr_at h]
 cases l[i] <;> rfl
theorem unb_pack (l:List Bool):unb (packS l) l.length=l:=by
 refine List.ext_getElem (by simp[unb]) fun j h1 h2 => ?_
 simp only[unb,List.getElem_map,List.getElem_range]
 exact sbit_pack h2
theorem unp_pack {l:List Bool} (h:l.length≤2048):UnpR (packS l) l.length=(l,0):=by
 have h1:=packS_size l
 rw[UnpR,if_neg (by omega),if_neg (by rw[h1];omega),Int.toNat_natCast,unb_pack,if_neg (by simp)]
theorem unp_len {s:ByteArray} {n:Int} (h:(UnpR s n).2=0):((UnpR s n).1.length:Int)=n∧0≤n∧n≤2048:=by
 unfold UnpR at h ⊢
 split at h
 · cases h
 · rename_i h1
   rw[if_neg h1]
   split at h
   · cases h
   · rename_i h2
     rw[if_neg h2]
     split at h
     · cases h
     · rename_i h3
       rw[if_neg h3,unb_len]
       omega
end Go.Proofs.YtegndijbpiccgaaGreatDoor.M
