import Derived.Test.YtegndijbpiccgaaGreatDoorR5FunB
import Derived.Test.YtegndijbpiccgaaGreatDoorMirS
namespace Go.Proofs.YtegndijbpiccgaaGreatDoor.M
set_option linter.unusedVariables false
set_option linter.unusedSimpArgs false
open Go Go.Mir
set_option linter.unusedVariables false
theorem i64_in (n:Int) (h : -9223372036854775808≤n∧n≤9223372036854775807):IntKind.i64.wrap n=n:=by
 rw[IntKind.wrap_i64];omega
theorem u8_wrap (n:Int):IntKind.u8.wrap n=n % 256:=by rw[IntKind.wrap_u8]
theorem pow_le {i:Nat} (h:i≤6):(256:Int) ^ i≤281474976710656∧(0:Int)<256 ^ i:=by
 have:i=0∨i=1∨i=2∨i=3∨i=4∨i=5∨i=6:=by omega
 rcases this with rfl|rfl|rfl|rfl|rfl|rfl|rfl <;> decide
theorem p167 (n:Int) (h0:0≤n) (h6:n≤6):Runs Fs 167 [.n (.int .i64 n)] [] (.n (.int .i64 (256 ^ n.toNat))) []:=by
 refine vc_eq fs167 rfl ?_
 rewrite[vc167,(V167e _ _).down]
 refine ⟨fun a p i=>a=n∧p=256 ^ i.toNat∧0≤i∧i≤n,fun a p i=>(n - i).toNat,⟨rfl,rfl,by simp,by omega,h0⟩,?_⟩
 rintro a p i ⟨rfl,rfl,h1,h2⟩ j
 refine sel_dec (fun h => ?_) (fun h => ?_)
 · have e1:(i+1).toNat=i.toNat+1:=by omega
   have e2:IntKind.i64.wrap (256 ^ i.toNat*256)=256 ^ (i+1).toNat:=by
    have:=pow_le (i:=i.toNat) (by omega)
    rw[e1,Int.pow_succ,i64_in]
    omega
   rw[e2,i64_in (i+1) (by omega)]
   exact ⟨rfl,⟨rfl,rfl,by omega,by omega⟩,by dsimp only;omega⟩
 · have:i=a:=by omega
   rw[this]
def be (n:Int) (s:Nat):List Mir.D:=(List.range s).map fun j => .int .u8 (n / 256 ^ (s - 1 - j) % 256)
def beLow (n:Int) (s i:Nat):List Mir.D:=(List.range s).map fun j => .int .u8 (if s - 1 - j<i then n / 256 ^ (s - 1 - j) % 256 else 0)
def strOf (l:List Mir.D):ByteArray:=ByteArray.mk (List.toArray (List.map Mir.byteOf l))
def Good (n:Int) (s:Nat):AV := .tup [.n (.str (strOf (be n s))),.n (.int .i64 0)]
theorem fdiv_pow (n:Int) (i:Int) (h0:0≤i) (h6:i≤6):Int.fdiv n (2 ^ (Min.min (Int.toNat (IntKind.i64.wrap (8*i))) (IntKind.bits .i64)))=n / 256 ^ i.toNat:=by
 have:i=0∨i=1∨i=2∨i=3∨i=4∨i=5∨i=6:=by omega
 rcases this with rfl|rfl|rfl|rfl|rfl|rfl|rfl <;> rw[Int.fdiv_eq_ediv_of_nonneg _ (by decide)] <;> rfl
theorem all_be (f:Nat→Int) (s:Nat):List.all ((List.range s).map fun j=>Mir.D.int .u8 (f j)) Mir.D.isU8=true:=by
 simp[Mir.D.isU8]
theorem p79_good (n s:Int) (h1:1≤s) (h6:s≤6) (hn:0≤n) (hlt:n<256 ^ s.toNat):Runs Fs 79 [.n (.int .i64 n),.n (.int .i64 s)] [] (Good n s.toNat) []:=by
 refine vc_eq fs79 rfl ?_
 rewrite[vc79,(V79e _ _ _).down]
 refine sel_dec (fun h1=>by omega) (fun _=>sel_dec (fun h2=>by omega) (fun _=>sel_dec (fun h3=>by omega) (fun _ => ?_)))
 refine ⟨by rw[i64_in _ (by omega)];omega,?_⟩
 rw[fdiv_pow n s (by omega) (by omega)]
 have hz:n / 256 ^ s.toNat=0:=Int.ediv_eq_zero_of_lt hn hlt
 rw[hz]
 refine ⟨by omega,by omega,rfl,?_⟩
 refine ⟨fun a b v len i row=>a=n∧b=s∧v=row.1∧len=s∧0≤i∧i≤s∧row.2=beLow n s.toNat i.toNat,fun a b v len i row=>(s - i).toNat,⟨rfl,rfl,rfl,rfl,?_,by omega,by omega,?_⟩,?_⟩
 · simp;omega
 · refine List.ext_getElem (by simp[beLow]) fun i h1 h2 => ?_
   simp[beLow]
 rintro a b v len i ⟨rv,re⟩ ⟨rfl,rfl,rfl,rfl,hi0,hi1,hre⟩ j
 simp only at hre
 subst hre
 refine sel_dec (fun h => ?_) (fun h => ?_)
 · have e1:IntKind.i64.wrap (IntKind.i64.wrap (len - 1) - i)=len - 1 - i:=by rw[i64_in (len - 1) (by omega),i64_in _ (by omega)]
   rw[fdiv_pow _ i hi0 (by omega),e1,i64_in (i+1) (by omega),i64_in (8*i) (by omega),u8_wrap]
   have hlen:(beLow a len.toNat i.toNat).length=len.toNat:=by simp[beLow]
   refine ⟨by omega,⟨rfl,rfl⟩,by omega,by rw[hlen];omega,⟨⟨⟨rfl,rfl⟩,rfl⟩,rfl⟩,by rw[hlen];omega,rfl,⟨rfl,rfl,rfl,rfl,by omega,by omega,?_⟩,by dsimp only;omega⟩
   dsimp only
   refine List.ext_getElem (by simp[beLow]) fun k h1 h2 => ?_
   have hk:k<len.toNat:=by simpa[beLow] using h2
   rw[List.getElem_set]
   simp only[beLow,List.getElem_map,List.getElem_range]
   by_cases hk2:(len - 1 - i).toNat=k
   · rw[if_pos hk2,if_pos (by omega),show len.toNat - 1 - k=i.toNat by omega]
   · rw[if_neg hk2]
     by_cases hk3:len.toNat - 1 - k<i.toNat
     · rw[if_pos hk3,if_pos (by omega)]
     · rw[if_neg hk3,if_neg (by omega)]
 · have:i=len:=by omega
   subst this
   refine ⟨rfl,.inl rfl,all_be _ _,?_⟩
   have:beLow a i.toNat i.toNat=be a i.toNat:=by
     refine List.ext_getElem (by simp[beLow,be]) fun k h1 h2 => ?_
     have hk:k<i.toNat:=by simpa[be] using h2
     simp only[beLow,be,List.getElem_map,List.getElem_range]
     rw[if_pos (by omega)]
   dsimp only
   rw[this]
   rfl
def beTop (n:Int) (s k:Nat):List Mir.D:=(List.range k).map fun j => .int .u8 (n / 256 ^ (s - 1 - j) % 256)
theorem p129_good (n s:Int) (h1:1≤s) (h6:s≤6) (hn:0≤n) (hlt:n<256 ^ s.toNat):Runs Fs 129 [.n (.int .i64 n),.n (.int .i64 s)] [] (Good n s.toNat) []:=by
 refine vc_eq fs129 rfl ?_
 rewrite[vc129,(V129e _ _ _).down]
 have hp6:=pow_le (i:=s.toNat) (by omega)
 refine sel_dec (fun h1=>by omega) (fun _=>sel_dec (fun h2=>by omega) (fun _=>sel_dec (fun h3=>by omega) (fun _ => ?_)))
 refine ⟨256 ^ s.toNat,(p167 s (by omega) (by omega)),sel_dec (fun h4=>by omega) (fun _ => ?_)⟩
 refine ⟨fun a v i row=>a=n∧v=row.1∧-1≤i∧i≤s - 1∧row.2=beTop n s.toNat (s - 1 - i).toNat,fun a v i row=>(i+1).toNat,⟨rfl,rfl,rfl,by rw[i64_in _ (by omega)];omega,by rw[i64_in _ (by omega)];omega,?_⟩,?_⟩
 · rw[i64_in _ (by omega),show (s - 1 - (s - 1)).toNat=0 by omega];rfl
 rintro a v i ⟨rv,re⟩ ⟨rfl,rfl,hi0,hi1,hre⟩ j
 simp only at hre
 subst hre
 refine sel_dec (fun h => ?_) (fun h => ?_)
 · have hp:=pow_le (i:=i.toNat) (by omega)
   have e:IntKind.u8.wrap (Int.tmod (IntKind.i64.wrap (Int.tdiv a (256 ^ i.toNat))) 256)=a / 256 ^ i.toNat % 256:=by
    have hq:0≤a / 256 ^ i.toNat:=Int.ediv_nonneg hn (by omega)
    have hq2:a / 256 ^ i.toNat≤a:=Int.ediv_le_self _ hn
    rw[Int.tdiv_eq_ediv_of_nonneg hn,i64_in _ (by omega),Int.tmod_eq_emod_of_nonneg hq,u8_wrap]
    omega
   have hlen:(beTop a s.toNat (s - 1 - i).toNat).length=(s - 1 - i).toNat:=by simp[beTop]
   refine ⟨256 ^ i.toNat,(p167 i (by omega) (by omega)),by omega,by decide,rfl,.inl rfl,⟨⟨rfl,rfl⟩,rfl⟩,by rw[hlen];simp;omega,rfl,?_,by rw[i64_in _ (by omega)];dsimp only;omega⟩
   rw[e,i64_in _ (by omega)]
   refine ⟨rfl,rfl,by omega,by omega,?_⟩
   dsimp only
   rw[show (s - 1 - (i - 1)).toNat=(s - 1 - i).toNat+1 by omega]
   unfold beTop
   rw[List.range_succ,List.map_append,List.map_cons,List.map_nil,show s.toNat - 1 - (s - 1 - i).toNat=i.toNat by omega]
 · have e:beTop a s.toNat (s - 1 - i).toNat=be a s.toNat:=by rw[show (s - 1 - i).toNat=s.toNat by omega];rfl
   refine ⟨rfl,.inl rfl,all_be _ _,?_⟩
   dsimp only
   rw[e]
   rfl
def beB (n:Int):Nat→List UInt8
 | 0=>[]
 | s+1=>UInt8.ofNat (n / 256 ^ s % 256).toNat :: beB n s
theorem be_succ (n:Int) (s:Nat):be n (s+1) = .int .u8 (n / 256 ^ s % 256) :: be n s:=by
 unfold be
 rw[List.range_succ_eq_map,List.map_cons,List.map_map]
 refine congr (congrArg _ ?_) ?_
 · simp
 · refine List.map_congr_left fun j hj => ?_
   simp only[List.mem_range]at hj
   simp only[Function.comp]
   rw[show s+1 - 1 - (j+1)=s - 1 - j by omega]
theorem be_bytes (n:Int):∀s,List.map Mir.byteOf (be n s)=beB n s
 | 0=>rfl
 | s+1=>by rw[be_succ,List.map_cons,be_bytes n s];rfl
theorem mod_pow (n P:Int) (hP:0<P):n % (P*256)=n / P % 256*P+n % P:=by
 have h1:=Int.mul_ediv_add_emod n P
 have h2:=Int.mul_ediv_add_emod (n / P) 256
 have h3:=Int.emod_nonneg n (b:=P) (by omega)
 have h4:=Int.emod_lt_of_pos n hP
 have h5:=Int.emod_nonneg (n / P) (b:=256) (by omega)
 have h6:=Int.emod_lt_of_pos (n / P) (b:=256) (by omega)
 have e:n=(n / P % 256*P+n % P)+(P*256)*(n / P / 256):=by
  have:P*(n / P)=P*(256*(n / P / 256)+n / P % 256):=by rw[h2]
  rw[Int.mul_add,←Int.mul_assoc]at this
  have c:n / P % 256*P=P*(n / P % 256):=Int.mul_comm _ _
  omega
 have lo:0≤n / P % 256*P:=Int.mul_nonneg h5 (by omega)
 have hi:n / P % 256*P≤255*P:=Int.mul_le_mul_of_nonneg_right (by omega) (by omega)
 rw[show n % (P*256)=((n / P % 256*P+n % P)+(P*256)*(n / P / 256)) % (P*256) by rw[←e],Int.add_mul_emod_self_left]
 exact Int.emod_eq_of_lt (by omega) (by omega)
def num (l:List UInt8):Int:=l.foldl (fun n b=>n*256+(b.toNat:Int)) 0
theorem num_snoc (l:List UInt8) (b:UInt8):num (l++[b])=num l*256+(b.toNat:Int):=by simp[num]
theorem num_from:∀(l:List UInt8) (a:Int),0≤a→a*256 ^ l.length≤l.foldl (fun n b=>n*256+(b.toNat:Int)) a∧l.foldl (fun n b=>n*256+(b.toNat:Int)) a<(a+1)*256 ^ l.length
 | [],a,h=>by simp;omega
 | b :: r,a,h=>by
   have hb:=b.toNat_lt
   obtain ⟨h1,h2⟩:=num_from r (a*256+(b.toNat:Int)) (by omega)
   have hP:(0:Int)<256 ^ r.length:=Int.pow_pos (by omega)
   simp only[List.foldl_cons,List.length_cons,Int.pow_succ]
   generalize (256:Int) ^ r.length=P at *
   have e1:a*(P*256)≤(a*256+(b.toNat:Int))*P:=by
    rw[Int.mul_comm P 256,←Int.mul_assoc]
    exact Int.mul_le_mul_of_nonneg_right (by omega) (by omega)
   have e2:(a*256+(b.toNat:Int)+1)*P≤(a+1)*(P*256):=by
    rw[Int.mul_comm P 256,←Int.mul_assoc]
    exact Int.mul_le_mul_of_nonneg_right (by omega) (by omega)
   omega
theorem num_bound (l:List UInt8):0≤num l∧num l<256 ^ l.length:=by
 have:=num_from l 0 (by omega)
 unfold num
 omega
theorem num_le {l:List UInt8} (h:l.length≤6):0≤num l∧num l<281474976710656:=by
 have:=num_bound l
 have:=pow_le h
 omega
def piece (s:ByteArray) (at_ k:Int):List UInt8:=(s.data.toList.drop at_.toNat).take k.toNat
def GetR (s:ByteArray) (at_ k:Int):AV:=
 if k<1∨6<k∨at_<0∨(s.size:Int)<at_ then .tup [.n (.int .i64 0),.n (.int .i64 0),.n (.int .i64 1)]
 else if (s.size:Int) - at_<k then .tup [.n (.int .i64 0),.n (.int .i64 0),.n (.int .i64 3)]
 else .tup [.n (.int .i64 (num (piece s at_ k))),.n (.int .i64 (at_+k)),.n (.int .i64 0)]
theorem getR_bad {s:ByteArray} {at_ k:Int} (h:k<1∨6<k∨at_<0∨(s.size:Int)<at_):GetR s at_ k = .tup [.n (.int .i64 0),.n (.int .i64 0),.n (.int .i64 1)]:=if_pos h
theorem getR_short {s:ByteArray} {at_ k:Int} (h:¬(k<1∨6<k∨at_<0∨(s.size:Int)<at_)) (h2:(s.size:Int) - at_<k):GetR s at_ k = .tup [.n (.int .i64 0),.n (.int .i64 0),.n (.int .i64 3)]:=by
 unfold GetR;rw[if_neg h,if_pos h2]
theorem getR_good {s:ByteArray} {at_ k:Int} (h:¬(k<1∨6<k∨at_<0∨(s.size:Int)<at_)) (h2:¬(s.size:Int) - at_<k):GetR s at_ k = .tup [.n (.int .i64 (num (piece s at_ k))),.n (.int .i64 (at_+k)),.n (.int .i64 0)]:=by
 unfold GetR;rw[if_neg h,if_neg h2]
theorem size_list (s:ByteArray):s.data.toList.length=s.size:=rfl
theorem piece_succ (s:ByteArray) (at_ i:Int) (h0:0≤at_) (hi:0≤i) (h:at_+i<s.size):∃b,s.data.toList[(at_+i).toNat]?=some b∧piece s at_ (i+1)=piece s at_ i++[b]:=by
 have hl:=size_list s
 have hlt:(at_+i).toNat<s.data.toList.length:=by omega
 refine ⟨s.data.toList[(at_+i).toNat],List.getElem?_eq_getElem hlt,?_⟩
 unfold piece
 rw[show (i+1).toNat=i.toNat+1 by omega,List.take_add_one]
 congr 1
 rw[List.getElem?_drop,show at_.toNat+i.toNat=(at_+i).toNat by omega,List.getElem?_eq_getElem hlt]
 rfl
theorem piece_len (s:ByteArray) (at_ k:Int):(piece s at_ k).length≤k.toNat:=by
 unfold piece;rw[List.length_take];omega
theorem p139 (s:ByteArray) (hs:(s.size:Int)≤9223372036854775807) (at_ k:Int):Runs Fs 139 [.n (.str s),.n (.int .i64 at_),.n (.int .i64 k)] [] (GetR s at_ k) []:=by
 refine vc_eq fs139 rfl ?_
 rewrite[vc139,(V139e _ _ _ _).down]
 have b1:∀ {p:Prop},p→(p→k<1∨6<k∨at_<0∨(s.size:Int)<at_)→Mir.AV.tup [.n (.int .i64 0),.n (.int .i64 0),.n (.int .i64 1)]=GetR s at_ k:=fun h g=>(getR_bad (g h)).symm
 refine sel_dec (fun h=>b1 h (by omega)) (fun h1=>sel_dec (fun h=>b1 h (by omega)) (fun h2=>sel_dec (fun h=>b1 h (by omega)) (fun h3=>sel_dec (fun h=>b1 h (by omega)) (fun h4 => ?_))))
 rw[i64_in _ (by omega)]
 refine sel_dec (fun h=>(getR_short (by omega) h).symm) (fun h5 => ?_)
 rw[getR_good (by omega) h5]
 refine ⟨fun t a n v i=>t=s∧a=at_∧n=k∧v=num (piece s at_ i)∧0≤i∧i≤k,fun t a n v i=>(k - i).toNat,⟨rfl,rfl,rfl,rfl,by simp[piece,num],by omega,by omega⟩,?_⟩
 rintro t a n v i ⟨rfl,rfl,rfl,rfl,hi0,hi1⟩ j
 refine sel_dec (fun h => ?_) (fun h => ?_)
 · obtain ⟨b,hb,hp⟩:=piece_succ t a i (by omega) hi0 (by omega)
   have hn:=num_le (l:=piece t a i) (by have:=piece_len t a i;omega)
   have hb2:=b.toNat_lt
   rw[i64_in (a+i) (by omega),i64_in (i+1) (by omega)]
   refine ⟨by omega,b,hb,rfl,⟨rfl,rfl,rfl,?_,by omega,by omega⟩,by dsimp only;omega⟩
   rw[hp,num_snoc,i64_in (_*256) (by omega),i64_in ((b.toNat:Int)) (by omega),i64_in _ (by omega)]
 · rw[i64_in (a+n) (by omega),show i=n by omega]
theorem or_low (a c:Int) (ha:0≤a) (ha2:a<281474976710656) (hc:0≤c) (hc2:c<256):
  IntKind.i64.wrap ((BitVec.toNat (HOr.hOr (BitVec.ofInt (IntKind.bits .i64) (IntKind.i64.wrap (a*(2 ^ (Min.min (Int.toNat 8) (IntKind.bits .i64)))))) (BitVec.ofInt (IntKind.bits .i64) (IntKind.i64.wrap c))):Nat):Int)=a*256+c:=by
 have e:(2:Int) ^ (Min.min (Int.toNat 8) (IntKind.bits .i64))=256:=rfl
 rw[e,i64_in (a*256) (by omega),i64_in c (by omega)]
 have hb:IntKind.bits .i64=64:=rfl
 rw[hb]
 obtain ⟨a,rfl⟩:=Int.eq_ofNat_of_zero_le ha
 obtain ⟨c,rfl⟩:=Int.eq_ofNat_of_zero_le hc
 have h1:(BitVec.ofInt 64 ((a:Int)*256))=BitVec.ofNat 64 (2 ^ 8*a):=by
  rw[show ((a:Int)*256)=((2 ^ 8*a:Nat):Int) by omega,BitVec.ofInt_natCast]
 have h2:(BitVec.ofInt 64 (c:Int))=BitVec.ofNat 64 c:=BitVec.ofInt_natCast _ _
 rw[h1,h2,BitVec.toNat_or,BitVec.toNat_ofNat,BitVec.toNat_ofNat,Nat.mod_eq_of_lt (by omega),Nat.mod_eq_of_lt (by omega),←Nat.two_pow_add_eq_or_of_lt (by omega)]
 rw[i64_in _ (by omega)]
 omega
theorem extract_piece (s:ByteArray) (at_ k:Int) (h0:0≤at_) (hk:0≤k) (h:at_+k≤s.size):bytesD (s.extract at_.toNat (at_+k).toNat)=(piece s at_ k).map fun b=>Mir.D.int .u8 (b.toNat:Int):=by
 unfold bytesD piece
 congr 1
 simp[ByteArray.data_extract,Array.toList_extract,List.extract]
 rw[show (at_+k).toNat - at_.toNat=k.toNat by omega]
theorem p134 (s:ByteArray) (hs:(s.size:Int)≤9223372036854775807) (at_ k:Int):Runs Fs 134 [.n (.str s),.n (.int .i64 at_),.n (.int .i64 k)] [] (GetR s at_ k) []:=by
 refine vc_eq fs134 rfl ?_
 rewrite[vc134,(V134e _ _ _ _).down]
 have b1:∀ {p:Prop},p→(p→k<1∨6<k∨at_<0∨(s.size:Int)<at_)→Mir.AV.tup [.n (.int .i64 0),.n (.int .i64 0),.n (.int .i64 1)]=GetR s at_ k:=fun h g=>(getR_bad (g h)).symm
 refine sel_dec (fun h=>b1 h (by omega)) (fun h1=>sel_dec (fun h=>b1 h (by omega)) (fun h2=>sel_dec (fun h=>b1 h (by omega)) (fun h3=>sel_dec (fun h=>b1 h (by omega)) (fun h4 => ?_))))
 rw[i64_in _ (by omega)]
 refine sel_dec (fun h=>(getR_short (by omega) h).symm) (fun h5 => ?_)
 rw[getR_good (by omega) h5,i64_in (at_+k) (by omega),extract_piece s at_ k (by omega) (by omega) (by omega)]
 have hlen:(piece s at_ k).length=k.toNat:=by
   unfold piece;rw[List.length_take,List.length_drop,size_list];omega
 refine ⟨by omega,by omega,by omega,by omega,?_⟩
 refine ⟨fun a n v els len i=>a=at_∧n=k∧v=num (piece s at_ i)∧els=((piece s at_ k).map fun b=>Mir.D.int .u8 (b.toNat:Int))∧len=k∧0≤i∧i≤k,fun a n v els len i=>(k - i).toNat,⟨rfl,rfl,rfl,by simp[piece,num],rfl,by rw[List.length_map,hlen];omega,by omega,by omega⟩,?_⟩
 rintro a n v els len i ⟨rfl,rfl,rfl,rfl,rfl,hi0,hi1⟩ j
 refine sel_dec (fun h => ?_) (fun h => ?_)
 · obtain ⟨b,hb,hp⟩:=piece_succ s a i (by omega) hi0 (by omega)
   have hn:=num_le (l:=piece s a i) (by have:=piece_len s a i;omega)
   have hb2:=b.toNat_lt
   have he:((piece s a len).map fun b=>Mir.D.int .u8 (b.toNat:Int))[i.toNat]?=some (.int .u8 (b.toNat:Int)):=by
    rw[List.getElem?_map]
    unfold piece
    rw[List.getElem?_take_of_lt (by omega),List.getElem?_drop,show a.toNat+i.toNat=(a+i).toNat by omega,hb]
    rfl
   rw[i64_in (i+1) (by omega)]
   refine ⟨rfl,hi0,_,he,(b.toNat:Int),rfl,by decide,rfl,⟨rfl,rfl,?_,rfl,rfl,by omega,by omega⟩,by dsimp only;omega⟩
   rw[or_low _ _ hn.1 hn.2 (by omega) (by omega),hp,num_snoc]
 · rw[show i=len by omega,i64_in (a+len) (by omega)]
theorem p83 (xs:List ByteArray) (h1:xs.length≤140737488355328) (h2:sizes xs≤140737488355328):Runs Fs 83 [.o (.sl 1 (xs.map Mir.D.str))] [] (.n (.str (cat xs))) []:=by
 refine vc_eq fs83 rfl ?_
 rewrite[vc83,(V83e _ _).down]
 exact ⟨_,join_runs fs128 xs h1 h2,rfl⟩
theorem strOf_size (l:List Mir.D):(strOf l).size=l.length:=by
 simp[strOf,ByteArray.size]
theorem be_length (n:Int) (s:Nat):(be n s).length=s:=by simp[be]
def TextOf (s:ByteArray):ByteArray:=cat [strOf (be s.size 2),s]
def TextR (s:ByteArray):AV:=if (s.size:Int) > 65535 then .tup [.n (.str (ByteArray.mk (List.toArray []))),.n (.int .i64 2)] else .tup [.n (.str (TextOf s)),.n (.int .i64 0)]
theorem textOf_size (s:ByteArray):(TextOf s).size=2+s.size:=by
 simp only[TextOf,cat_size,sizes,strOf_size,be_length];omega
theorem p80 (s:ByteArray):Runs Fs 80 [.n (.str s)] [] (TextR s) []:=by
 refine vc_eq fs80 rfl ?_
 rewrite[vc80,(V80e _ _).down]
 refine sel_dec (fun h => ?_) (fun h => ?_)
 · unfold TextR;rw[if_pos h]
 · refine ⟨_,_,p79_good s.size 2 (by omega) (by omega) (by omega) (by simp;omega),rfl,_,p83 [strOf (be s.size 2),s] (by simp) (by simp only[sizes,strOf_size,be_length];omega),?_⟩
   unfold TextR;rw[if_neg h];rfl
theorem cat_data (xs:List ByteArray):(cat xs).data.toList=(xs.map (·.data.toList)).flatten:=by simp[cat]
theorem num_foldl:∀(l:List UInt8) (a:Int),l.foldl (fun n b=>n*256+(b.toNat:Int)) a=a*256 ^ l.length+num l
 | [],a=>by simp[num]
 | b :: r,a=>by
   have h1:=num_foldl r (a*256+(b.toNat:Int))
   have h2:=num_foldl r (0*256+(b.toNat:Int))
   simp only[List.foldl_cons,List.length_cons,num,Int.pow_succ]at h1 h2 ⊢
   rw[h1,h2,Int.add_mul,Int.mul_assoc,Int.mul_comm 256 (256 ^ r.length)]
   simp only[Int.zero_mul,Int.zero_add,Int.add_assoc]
theorem num_cons (b:UInt8) (l:List UInt8):num (b :: l)=(b.toNat:Int)*256 ^ l.length+num l:=by
 have:=num_foldl l (0*256+(b.toNat:Int))
 simp only[num,List.foldl_cons]at this ⊢
 rw[this];simp
theorem beB_length (n:Int):∀s,(beB n s).length=s
 | 0=>rfl
 | s+1=>by simp[beB,beB_length n s]
theorem num_beB (n:Int):∀s,num (beB n s)=n % 256 ^ s
 | 0=>by simp[beB,num]
 | s+1=>by
   have hp:(0:Int)<256 ^ s:=Int.pow_pos (by decide)
   have h0:0≤n / 256 ^ s % 256:=Int.emod_nonneg _ (by decide)
   have h1:n / 256 ^ s % 256<256:=Int.emod_lt_of_pos _ (by decide)
   rw[beB,num_cons,num_beB n s,beB_length,Int.pow_succ,mod_pow n _ hp]
   congr 2
   simp only[UInt8.toNat_ofNat']
   omega
theorem strOf_data (l:List Mir.D):(strOf l).data.toList=l.map Mir.byteOf:=by simp[strOf]
theorem ext_data (s:ByteArray) (a b:Nat):(s.extract a b).data.toList=(s.data.toList.take b).drop a:=by
 simp[ByteArray.data_extract,List.drop_take]
theorem textOf_data (s:ByteArray):(TextOf s).data.toList=beB s.size 2++s.data.toList:=by
 simp only[TextOf,cat_data,List.map_cons,List.map_nil,List.flatten_cons,List.flatten_nil,List.append_nil,strOf_data,be_bytes]
theorem cat3 (a b c:ByteArray):(cat [a,b,c]).data.toList=a.data.toList++(b.data.toList++c.data.toList):=by
 rw[cat_data];simp
theorem cat3_size (a b c:ByteArray):(cat [a,b,c]).size=a.size+b.size+c.size:=by
 simp only[cat_size,sizes];omega
theorem bytes_ext {a b:ByteArray} (h:a.data.toList=b.data.toList):a=b:=by
 cases a;cases b
 simp only[ByteArray.mk.injEq]
 exact Array.toList_inj.1 h
theorem sel_beq {α:Type} [BEq α] [ReflBEq α] {x:α} {A B:Prop} (h:A):sel (x==x) A B:=by rw[beq_self_eq_true];exact h
def tz (l:List UInt8):List UInt8:=Lib.trimRightB l 0
theorem tz_nil:tz []=[]:=rfl
theorem tz_snoc0 (l:List UInt8):tz (l++[0])=tz l:=by simp[tz,Lib.trimRightB]
theorem tz_snoc (l:List UInt8) (b:UInt8) (h:b≠0):tz (l++[b])=l++[b]:=by
 simp[tz,Lib.trimRightB,h]
theorem tz_zeros (l:List UInt8):∀n,tz (l++List.replicate n 0)=tz l
 | 0=>by simp
 | n+1=>by rw[List.replicate_succ',←List.append_assoc,tz_snoc0,tz_zeros l n]
theorem snoc_cases (l:List UInt8):l=[]∨∃r b,l=r++[b]:=by
 rcases List.eq_nil_or_concat l with h|⟨r,b,h⟩
 · exact .inl h
 · exact .inr ⟨r,b,by simpa using h⟩
theorem tz_split:∀(k:Nat) (l:List UInt8),l.length=k→∃n,l=tz l++List.replicate n 0∧(tz l=[]∨∃r b,tz l=r++[b]∧b≠0)
 | 0,l,h=>by
   obtain rfl:l=[]:=List.eq_nil_of_length_eq_zero h
   exact ⟨0,rfl,.inl rfl⟩
 | k+1,l,h=>by
   rcases snoc_cases l with rfl|⟨r,b,rfl⟩
   · cases h
   · by_cases hb:b=0
     · subst hb
       obtain ⟨n,h1,h2⟩:=tz_split k r (by simpa using h)
       rw[tz_snoc0]
       exact ⟨n+1,by rw[List.replicate_succ',←List.append_assoc,←h1],h2⟩
     · rw[tz_snoc r b hb]
       exact ⟨0,by simp,.inr ⟨r,b,rfl,hb⟩⟩
theorem tz_len (l:List UInt8):(tz l).length≤l.length:=by
 obtain ⟨n,h,_⟩:=tz_split _ l rfl
 have:=congrArg List.length h
 rw[List.length_append,List.length_replicate]at this
 omega
theorem tz_idem (l:List UInt8):tz (tz l)=tz l:=by
 obtain ⟨n,_,h|⟨r,b,h,hb⟩⟩:=tz_split _ l rfl
 · rw[h];rfl
 · rw[h,tz_snoc r b hb]
def TrimS (s:ByteArray):ByteArray:=trimB s 0
theorem trimS_data (s:ByteArray):(TrimS s).data.toList=tz s.data.toList:=by simp[TrimS,trimB,tz]
theorem trimS_size (s:ByteArray):(TrimS s).size≤s.size:=by
 have:=tz_len s.data.toList
 rw[←trimS_data,size_list,size_list]at this
 exact this
theorem p81 (s:ByteArray) (hs:(s.size:Int)≤9223372036854775807):Runs Fs 81 [.n (.str s)] [] (.n (.str (TrimS s))) []:=by
 refine vc_eq fs81 rfl ?_
 rewrite[vc81,(V81e _ _).down]
 exact ⟨_,trim_runs fs126 s 0 (by decide) (by omega),rfl⟩
theorem p103 (s:ByteArray) (hs:(s.size:Int)≤9223372036854775807):Runs Fs 103 [.n (.str s)] [] (.n (.str (TrimS s))) []:=by
 refine vc_eq fs103 rfl ?_
 rewrite[vc103,(V103e _ _).down]
 refine ⟨fun t n=>t=s∧0≤n∧n≤s.size∧tz (s.data.toList.take n.toNat)=tz s.data.toList,fun t n=>n.toNat,⟨rfl,rfl,by omega,by omega,by rw[show ((s.size:Nat):Int).toNat=s.data.toList.length by simp[size_list],List.take_length]⟩,?_⟩
 rintro t n ⟨rfl,h0,h1,hz⟩ j
 have done:tz (t.data.toList.take n.toNat)=t.data.toList.take n.toNat→0≤n∧(n≤t.size∧AV.n (Mir.D.str (t.extract 0 n.toNat))=AV.n (Mir.D.str (TrimS t))):=fun h=>by
   refine ⟨h0,h1,?_⟩
   congr 2
   refine bytes_ext ?_
   rw[ext_data,trimS_data,←hz,h];rfl
 refine sel_dec (fun h => ?_) (fun h => ?_)
 · rw[i64_in (n - 1) (by omega)]
   have hlt:(n - 1).toNat<t.data.toList.length:=by rw[size_list];omega
   have hsp:t.data.toList.take n.toNat=t.data.toList.take (n - 1).toNat++[t.data.toList[(n - 1).toNat]]:=by
     rw[show n.toNat=(n - 1).toNat+1 by omega,List.take_add_one,List.getElem?_eq_getElem hlt];rfl
   refine ⟨by omega,_,List.getElem?_eq_getElem hlt,sel_intro (fun hb => ?_) (fun hb=>done ?_)⟩
   · have hb0:t.data.toList[(n - 1).toNat]=0:=by
      have:(t.data.toList[(n - 1).toNat]).toNat=0:=by have:=beq_iff_eq.1 hb;omega
      exact UInt8.toNat_inj.1 this
     refine ⟨rfl,⟨rfl,by omega,by omega,?_⟩,by dsimp only;omega⟩
     rw[←hz,hsp,hb0,tz_snoc0]
   · rw[hsp,tz_snoc]
     intro h0
     rw[h0]at hb
     simp at hb
 · refine done ?_
   have:n.toNat=0:=by omega
   rw[this,List.take_zero];rfl
def padB (s:ByteArray) (n:Nat):ByteArray:=⟨(s.data.toList++List.replicate n 0).toArray⟩
theorem padB_data (s:ByteArray) (n:Nat):(padB s n).data.toList=s.data.toList++List.replicate n 0:=by simp[padB]
theorem padB_size (s:ByteArray) (n:Nat):(padB s n).size=s.size+n:=by
 have:=congrArg List.length (padB_data s n)
 rw[size_list,List.length_append,List.length_replicate,size_list]at this
 exact this
def PadR (s:ByteArray) (k:Int):AV:=
 if k<0∨4096<k then .tup [.n (.str (ByteArray.mk (List.toArray []))),.n (.int .i64 1)]
 else if (s.size:Int) > k then .tup [.n (.str (ByteArray.mk (List.toArray []))),.n (.int .i64 2)]
 else .tup [.n (.str (padB s (k - s.size).toNat)),.n (.int .i64 0)]
theorem padR_good {s:ByteArray} {k:Int} (h0:(s.size:Int)≤k) (h1:k≤4096):PadR s k = .tup [.n (.str (padB s (k - s.size).toNat)),.n (.int .i64 0)]:=by
 unfold PadR
 rw[if_neg (by omega),if_neg (by omega)]
theorem rep_zeros:∀n,Lib.repeatL [(0:UInt8)] n=List.replicate n 0
 | 0=>rfl
 | n+1=>by rw[Lib.repeatL,rep_zeros n,List.replicate_succ];rfl
theorem p156 (s:ByteArray) (k:Int) (hs:(s.size:Int)≤9223372036854775807):Runs Fs 156 [.n (.str s),.n (.int .i64 k)] [] (PadR s k) []:=by
 refine vc_eq fs156 rfl ?_
 rewrite[vc156,(V156e _ _ _).down]
 refine sel_dec (fun h=>by unfold PadR;rw[if_pos (by omega)]) (fun h1=>sel_dec (fun h=>by unfold PadR;rw[if_pos (by omega)]) (fun h2=>sel_dec (fun h=>by unfold PadR;rw[if_neg (by omega),if_pos (by omega)]) (fun h3 => ?_)))
 rw[i64_in _ (by omega)]
 have hz:(repB (ByteArray.mk (List.toArray [0])) (k - s.size).toNat).data.toList=List.replicate (k - s.size).toNat 0:=by
  simp[repB,rep_zeros]
 have hzs:(repB (ByteArray.mk (List.toArray [0])) (k - s.size).toNat).size=(k - s.size).toNat:=by
  have:=congrArg List.length hz
  rwa [size_list,List.length_replicate]at this
 refine ⟨_,repeat_runs fs187 (ByteArray.mk (List.toArray [0])) (k - s.size) (by omega) (by omega) (by show 1*_≤_;omega),rfl,_,p83 [s,repB (ByteArray.mk (List.toArray [0])) (k - s.size).toNat] (by simp) (by simp only[sizes,hzs];omega),?_⟩
 rw[padR_good (by omega) (by omega)]
 congr 3
 congr 1
 refine bytes_ext ?_
 rw[cat_data,padB_data]
 simp only[List.map_cons,List.map_nil,List.flatten_cons,List.flatten_nil,List.append_nil,hz]
theorem app_data (a b:ByteArray):(a++b).data.toList=a.data.toList++b.data.toList:=by simp
theorem p138 (s:ByteArray) (k:Int) (hs:(s.size:Int)≤9223372036854775807):Runs Fs 138 [.n (.str s),.n (.int .i64 k)] [] (PadR s k) []:=by
 refine vc_eq fs138 rfl ?_
 rewrite[vc138,(V138e _ _ _).down]
 refine sel_dec (fun h=>by unfold PadR;rw[if_pos (by omega)]) (fun h1=>sel_dec (fun h=>by unfold PadR;rw[if_pos (by omega)]) (fun h2=>sel_dec (fun h=>by unfold PadR;rw[if_neg (by omega),if_pos (by omega)]) (fun h3 => ?_)))
 rw[i64_in _ (by omega)]
 have hz:∀n:Nat,(ByteArray.mk (List.toArray (List.map Mir.byteOf (List.replicate n (Mir.D.int .u8 0))))).data.toList=List.replicate n 0:=fun n=>by
  simp[Mir.byteOf]
 have hzs:(ByteArray.mk (List.toArray (List.map Mir.byteOf (List.replicate (k - s.size).toNat (Mir.D.int .u8 0))))).size=(k - s.size).toNat:=by
  have:=congrArg List.length (hz (k - s.size).toNat)
  rwa [size_list,List.length_replicate]at this
 refine ⟨by omega,by omega,rfl,.inl rfl,by simp[Mir.D.isU8],by rw[hzs];omega,?_⟩
 rw[padR_good (by omega) (by omega)]
 congr 3
 congr 1
 refine bytes_ext ?_
 rw[app_data,padB_data,hz]
theorem p130 (s:ByteArray) (hs:(s.size:Int)≤9223372036854775807):Runs Fs 130 [.n (.str s)] [] (TextR s) []:=by
 refine vc_eq fs130 rfl ?_
 rewrite[vc130,(V130e _ _).down]
 refine sel_dec (fun h=>by unfold TextR;rw[if_pos h]) (fun h => ?_)
 have e:[Mir.D.int .u8 (IntKind.u8.wrap (IntKind.i64.wrap (Int.tdiv ((s.size:Nat):Int) 256))),Mir.D.int .u8 (IntKind.u8.wrap (Int.tmod ((s.size:Nat):Int) 256))]=be s.size 2:=by
   have h1:IntKind.u8.wrap (IntKind.i64.wrap (Int.tdiv ((s.size:Nat):Int) 256))=(s.size:Int) / 256 % 256:=by
    rw[Int.tdiv_eq_ediv_of_nonneg (by omega),i64_in _ (by omega),u8_wrap]
   have h2:IntKind.u8.wrap (Int.tmod ((s.size:Nat):Int) 256)=(s.size:Int) % 256:=by
    rw[Int.tmod_eq_emod_of_nonneg (by omega),u8_wrap];omega
   rw[h1,h2]
   simp[be,List.range_succ]
 rw[e]
 refine ⟨by decide,by decide,rfl,.inl rfl,all_be _ _,?_,?_⟩
 · show (((strOf (be s.size 2)).size+s.size:Nat):Int)≤_
   rw[strOf_size,be_length];omega
 · unfold TextR
   rw[if_neg h]
   congr 3
   congr 1
   refine bytes_ext ?_
   rw[app_data,textOf_data]
   rfl
def poly:BitVec 32:=2197175160#32
def cstep (c:BitVec 32):BitVec 32:=(c >>> 1) ^^^ (if c.getLsbD 0 then poly else 0#32)
def it:Nat→BitVec 32→BitVec 32
 | 0,c=>c
 | k+1,c=>cstep (it k c)
def bvb (b:UInt8):BitVec 32:=BitVec.ofNat 32 b.toNat
def crcByte (c:BitVec 32) (b:UInt8):BitVec 32:=it 8 (c ^^^ bvb b)
def crcOn (c:BitVec 32) (l:List UInt8):BitVec 32:=l.foldl crcByte c
def tv (c:BitVec 32):Int:=(c.toNat:Int)
theorem u32_in (n:Int) (h:0≤n∧n<4294967296):IntKind.u32.wrap n=n:=by
 rw[IntKind.wrap_u32];omega
theorem tv_bound (c:BitVec 32):0≤tv c∧tv c<4294967296:=by
 have:=c.isLt
 unfold tv;omega
theorem wrap_tv (c:BitVec 32):IntKind.u32.wrap (((c.toNat:Nat)):Int)=tv c:=u32_in _ (tv_bound c)
theorem of_tv (c:BitVec 32):BitVec.ofInt (IntKind.bits .u32) (tv c)=c:=by
 show BitVec.ofInt 32 ((c.toNat:Nat):Int)=c
 rw[BitVec.ofInt_natCast,BitVec.ofNat_toNat,BitVec.setWidth_eq]
theorem lsb_mod (c:BitVec 32):c.getLsbD 0=decide (c.toNat % 2=1):=by
 rw[BitVec.getLsbD,Nat.testBit_eq_decide_div_mod_eq];simp
theorem and_one (c:BitVec 32):c &&& 1#32=if c.getLsbD 0 then 1#32 else 0#32:=by
 apply BitVec.eq_of_toNat_eq
 rw[BitVec.toNat_and,lsb_mod]
 show c.toNat &&& 1=_
 rw[Nat.and_one_is_mod]
 by_cases h:c.toNat % 2=1
 · simp[h]
 · have:c.toNat % 2=0:=by omega
   simp[this]
theorem shr_one (c:BitVec 32):Int.fdiv (tv c) 2=tv (c >>> 1):=by
 unfold tv
 rw[Int.fdiv_eq_ediv_of_nonneg _ (by decide),BitVec.toNat_ushiftRight,Nat.shiftRight_eq_div_pow]
 omega
theorem neg_one (c:BitVec 32):IntKind.u32.wrap (0 - tv c)=tv (-c):=by
 unfold tv
 rw[IntKind.wrap_u32,BitVec.toNat_neg]
 have:=c.isLt
 by_cases h:c.toNat=0
 · rw[h];decide
 · omega
theorem poly_and (c:BitVec 32):poly &&& -(c &&& 1#32)=if c.getLsbD 0 then poly else 0#32:=by
 rw[and_one]
 cases c.getLsbD 0
 · decide
 · decide
theorem code_step (c:BitVec 32):
  IntKind.u32.wrap (((BitVec.toNat (HXor.hXor (BitVec.ofInt (IntKind.bits .u32) (Int.fdiv (tv c) (2 ^ (Min.min (Int.toNat 1) (IntKind.bits .u32))))) (BitVec.ofInt (IntKind.bits .u32) (IntKind.u32.wrap (((BitVec.toNat (HAnd.hAnd (BitVec.ofInt (IntKind.bits .u32) 2197175160) (BitVec.ofInt (IntKind.bits .u32) (IntKind.u32.wrap (0 - (IntKind.u32.wrap (((BitVec.toNat (HAnd.hAnd (BitVec.ofInt (IntKind.bits .u32) (tv c)) (BitVec.ofInt (IntKind.bits .u32) 1))):Nat):Int))))))):Nat):Int))))):Nat):Int)=tv (cstep c):=by
 have e2:(2:Int) ^ (Min.min (Int.toNat 1) (IntKind.bits .u32))=2:=rfl
 have e1:BitVec.ofInt (IntKind.bits .u32) 1=1#32:=rfl
 have ep:BitVec.ofInt (IntKind.bits .u32) 2197175160=poly:=rfl
 rw[e2,e1,ep,shr_one,of_tv,of_tv]
 have h1:IntKind.u32.wrap (((BitVec.toNat (c &&& 1#32)):Nat):Int)=tv (c &&& 1#32):=wrap_tv _
 have h2:(HAnd.hAnd c 1#32:BitVec 32)=c &&& 1#32:=rfl
 erw[h1,neg_one,of_tv]
 have h3:IntKind.u32.wrap (((BitVec.toNat (poly &&& -(c &&& 1#32))):Nat):Int)=tv (poly &&& -(c &&& 1#32)):=wrap_tv _
 erw[h3,of_tv,poly_and]
 exact wrap_tv _
theorem code_xor (c d:BitVec 32) (y:Int) (hy:y=tv d):IntKind.u32.wrap (((BitVec.toNat (HXor.hXor (BitVec.ofInt (IntKind.bits .u32) (tv c)) (BitVec.ofInt (IntKind.bits .u32) y))):Nat):Int)=tv (c ^^^ d):=by
 subst hy
 rw[of_tv,of_tv]
 exact wrap_tv _
theorem not_xor (c:BitVec 32):IntKind.u32.wrap (((BitVec.toNat (HXor.hXor (BitVec.ofInt (IntKind.bits .u32) (IntKind.max .u32)) (BitVec.ofInt (IntKind.bits .u32) (tv c)))):Nat):Int)=tv (~~~ c):=by
 rw[of_tv]
 have e:BitVec.ofInt (IntKind.bits .u32) (IntKind.max .u32)=BitVec.allOnes 32:=rfl
 rw[e]
 have:(HXor.hXor (BitVec.allOnes 32) c:BitVec 32) = ~~~ c:=by rw[BitVec.allOnes_xor]
 erw[this]
 exact wrap_tv _
theorem not_sub (c:BitVec 32):IntKind.u32.wrap (4294967295 - tv c)=tv (~~~ c):=by
 unfold tv
 have:=c.isLt
 rw[BitVec.toNat_not,IntKind.wrap_u32]
 omega
theorem u8_tv (b:UInt8):IntKind.u32.wrap ((b.toNat:Nat):Int)=tv (bvb b):=by
 have:=b.toNat_lt
 unfold tv bvb
 rw[u32_in _ (by omega),BitVec.toNat_ofNat,Nat.mod_eq_of_lt (by omega)]
theorem crcOn_snoc (c:BitVec 32) (l:List UInt8) (b:UInt8):crcOn c (l++[b])=crcByte (crcOn c l) b:=by simp[crcOn]
theorem p163 (c:BitVec 32) (s:ByteArray) (hs:(s.size:Int)≤9223372036854775807):Runs Fs 163 [.n (.int .u32 (tv c)),.n (.str s)] [] (.n (.int .u32 (tv (~~~ (crcOn (~~~ c) s.data.toList))))) []:=by
 refine vc_eq fs163 rfl ?_
 rewrite[vc163,(V163e _ _ _).down]
 have hl:(bytesD s).length=s.size:=by simp[bytesD,size_list]
 refine ⟨fun x l n i=>x=tv (crcOn (~~~ c) (s.data.toList.take i.toNat))∧l=bytesD s∧n=s.size∧0≤i∧i≤s.size,fun x l n i=>(n - i).toNat,⟨rfl,by rw[not_xor];rfl,rfl,by rw[hl],by omega,by omega⟩,?_⟩
 rintro x l n i ⟨rfl,rfl,rfl,h0,h1⟩ j
 refine sel_dec (fun h => ?_) (fun h => ?_)
 · have hlt:i.toNat<s.data.toList.length:=by rw[size_list];omega
   have hg:(bytesD s)[i.toNat]?=some (.int .u8 ((s.data.toList[i.toNat]).toNat:Int)):=by
     unfold bytesD;rw[List.getElem?_map,List.getElem?_eq_getElem hlt];rfl
   refine ⟨rfl,h0,_,hg,_,rfl,?_⟩
   rw[code_xor _ (bvb s.data.toList[i.toNat]) _ (u8_tv _)]
   refine ⟨fun y l' n' i' k=>y=tv (it k.toNat (crcOn (~~~ c) (s.data.toList.take i.toNat) ^^^ bvb s.data.toList[i.toNat]))∧l'=bytesD s∧n'=s.size∧i'=i∧0≤k∧k≤8,fun y l' n' i' k=>(8 - k).toNat,⟨rfl,rfl,rfl,rfl,rfl,by omega,by omega⟩,?_⟩
   rintro y l' n' i' k ⟨rfl,rfl,rfl,rfl,k0,k1⟩ j'
   refine sel_dec (fun hk => ?_) (fun hk => ?_)
   · rw[code_step,i64_in (k+1) (by omega)]
     exact ⟨by omega,rfl,⟨by rw[show (k+1).toNat=k.toNat+1 by omega];rfl,rfl,rfl,rfl,by omega,by omega⟩,by dsimp only;omega⟩
   · rw[i64_in (i'+1) (by omega),show k.toNat=8 by omega]
     refine ⟨rfl,⟨?_,rfl,rfl,by omega,by omega⟩,by dsimp only;omega⟩
     rw[show (i'+1).toNat=i'.toNat+1 by omega,List.take_add_one,List.getElem?_eq_getElem hlt]
     show _=tv (crcOn (~~~ c) (s.data.toList.take i'.toNat++[s.data.toList[i'.toNat]]))
     rw[crcOn_snoc];rfl
 · rw[not_xor,show i.toNat=s.data.toList.length by rw[size_list];omega,List.take_length]
theorem ref_low (c:BitVec 32):Int.tmod (tv c) 2=if c.getLsbD 0 then 1 else 0:=by
 have:=tv_bound c
 rw[Int.tmod_eq_emod_of_nonneg this.1,lsb_mod]
 unfold tv
 by_cases h:c.toNat % 2=1
 · simp[h];omega
 · simp[h];omega
theorem ref_bit (b:UInt8) (k:Int) (h0:0≤k) (h8:k<8):Int.tmod (Int.fdiv (IntKind.u32.wrap (((UInt8.toNat b):Nat):Int)) (2 ^ (Min.min (Int.toNat (IntKind.u64.wrap k)) (IntKind.bits .u32)))) 2=if (bvb b).getLsbD k.toNat then 1 else 0:=by
 have hb:=b.toNat_lt
 have e:IntKind.u64.wrap k=k:=by rw[IntKind.wrap_u64];omega
 have e2:Min.min (Int.toNat k) (IntKind.bits .u32)=k.toNat:=by show min k.toNat 32=k.toNat;omega
 rw[e,e2,u32_in _ (by omega),Int.fdiv_eq_ediv_of_nonneg _ (by exact Int.le_of_lt (Int.pow_pos (by decide)))]
 rw[Int.tmod_eq_emod_of_nonneg (Int.ediv_nonneg (by omega) (Int.le_of_lt (Int.pow_pos (by decide))))]
 have h3:(bvb b).getLsbD k.toNat=decide (b.toNat / 2 ^ k.toNat % 2=1):=by
   unfold bvb
   rw[BitVec.getLsbD_ofNat,Nat.testBit_eq_decide_div_mod_eq]
   simp;omega
 rw[h3]
 have h4:((b.toNat:Int) / 2 ^ k.toNat % 2)=((b.toNat / 2 ^ k.toNat % 2:Nat):Int):=by push_cast;rfl
 rw[h4]
 by_cases h:b.toNat / 2 ^ k.toNat % 2=1
 · simp[h]
 · have:b.toNat / 2 ^ k.toNat % 2=0:=by omega
   simp[this]
theorem tdiv_tv (c:BitVec 32):IntKind.u32.wrap (Int.tdiv (tv c) 2)=tv (c >>> 1):=by
 have:=tv_bound c
 rw[Int.tdiv_eq_ediv_of_nonneg this.1,u32_in _ (by omega),←shr_one,Int.fdiv_eq_ediv_of_nonneg _ (by decide)]
theorem ref_round (r B:BitVec 32) (k:Nat) (c:BitVec 32) (h:r ^^^ (B >>> k)=it k c):
  ((r >>> 1) ^^^ (if r.getLsbD 0≠B.getLsbD k then poly else 0#32)) ^^^ (B >>> (k+1))=it (k+1) c:=by
 show _=cstep (it k c)
 rw[←h]
 unfold cstep
 have e1:(r ^^^ (B >>> k)) >>> 1=(r >>> 1) ^^^ (B >>> (k+1)):=by
  rw[BitVec.ushiftRight_xor_distrib,BitVec.shiftRight_add]
 have e2:(r ^^^ (B >>> k)).getLsbD 0=(r.getLsbD 0 != B.getLsbD k):=by
  rw[BitVec.getLsbD_xor,BitVec.getLsbD_ushiftRight];simp
 rw[e1,e2]
 have e3:(if r.getLsbD 0≠B.getLsbD k then poly else 0#32)=(if (r.getLsbD 0 != B.getLsbD k)=true then poly else 0#32):=by
  cases r.getLsbD 0 <;> cases B.getLsbD k <;> rfl
 rw[e3,BitVec.xor_assoc,BitVec.xor_assoc]
 congr 1
 exact BitVec.xor_comm _ _
theorem bvb_gone (b:UInt8):bvb b >>> 8=0#32:=by
 apply BitVec.eq_of_toNat_eq
 have:=b.toNat_lt
 rw[BitVec.toNat_ushiftRight,Nat.shiftRight_eq_div_pow]
 unfold bvb
 rw[BitVec.toNat_ofNat,Nat.mod_eq_of_lt (by omega)]
 show b.toNat / 256=0
 omega
theorem p193 (c:BitVec 32) (s:ByteArray) (hs:(s.size:Int)≤9223372036854775807):Runs Fs 193 [.n (.int .u32 (tv c)),.n (.str s)] [] (.n (.int .u32 (tv (~~~ (crcOn (~~~ c) s.data.toList))))) []:=by
 refine vc_eq fs193 rfl ?_
 rewrite[vc193,(V193e _ _ _).down]
 refine ⟨fun t x i=>t=s∧x=tv (crcOn (~~~ c) (s.data.toList.take i.toNat))∧0≤i∧i≤s.size,fun t x i=>(s.size - i).toNat,⟨rfl,rfl,by rw[not_sub];rfl,by omega,by omega⟩,?_⟩
 rintro t x i ⟨rfl,rfl,h0,h1⟩ j
 refine sel_dec (fun h => ?_) (fun h => ?_)
 · have hlt:i.toNat<t.data.toList.length:=by rw[size_list];omega
   refine ⟨fun t' y i' k=>t'=t∧i'=i∧0≤k∧k≤8∧∃r:BitVec 32,y=tv r∧r ^^^ (bvb t.data.toList[i.toNat] >>> k.toNat)=it k.toNat (crcOn (~~~ c) (t.data.toList.take i.toNat) ^^^ bvb t.data.toList[i.toNat]),fun t' y i' k=>(8 - k).toNat,⟨rfl,rfl,rfl,by omega,by omega,_,rfl,rfl⟩,?_⟩
   rintro t' y i' k ⟨rfl,rfl,k0,k1,r,rfl,hr⟩ j'
   refine sel_dec (fun hk => ?_) (fun hk => ?_)
   · have hnext:=ref_round r _ k.toNat _ hr
     rw[ref_low,tdiv_tv,code_xor (r >>> 1) poly 2197175160 rfl,i64_in (k+1) (by omega)]
     have e8:(k+1).toNat=k.toNat+1:=by omega
     refine ⟨h0,_,List.getElem?_eq_getElem hlt,by rw[IntKind.wrap_u64];omega,by decide,by decide,by decide,?_⟩
     rw[ref_bit _ k k0 hk]
     refine sel_intro (fun hd => ?_) (fun hd => ?_)
     · refine ⟨rfl,⟨rfl,rfl,by omega,by omega,_,rfl,?_⟩,by dsimp only;omega⟩
       rw[e8,←hnext,if_pos]
       intro he
       rw[he]at hd
       simp at hd
     · refine ⟨rfl,⟨rfl,rfl,by omega,by omega,_,rfl,?_⟩,by dsimp only;omega⟩
       rw[e8,←hnext,if_neg,BitVec.xor_zero]
       intro he
       apply he
       revert hd
       cases r.getLsbD 0 <;> cases (bvb t'.data.toList[i'.toNat]).getLsbD k.toNat <;> simp
   · rw[i64_in (i'+1) (by omega)]
     rw[show k.toNat=8 by omega,bvb_gone,BitVec.xor_zero]at hr
     refine ⟨rfl,⟨rfl,?_,by omega,by omega⟩,by dsimp only;omega⟩
     rw[show (i'+1).toNat=i'.toNat+1 by omega,List.take_add_one,List.getElem?_eq_getElem hlt]
     show _=tv (crcOn (~~~ c) (t'.data.toList.take i'.toNat++[t'.data.toList[i'.toNat]]))
     rw[crcOn_snoc,hr];rfl
 · rw[not_sub,show i.toNat=t.data.toList.length by rw[size_list];omega,List.take_length]
def crc (s:ByteArray):BitVec 32 := ~~~ (crcOn (~~~ 0#32) s.data.toList)
theorem p168 (s:ByteArray) (hs:(s.size:Int)≤9223372036854775807):Runs Fs 168 [.n (.str s)] [] (.n (.int .u32 (tv (crc s)))) []:=by
 refine vc_eq fs168 rfl ?_
 rw[vc168]
 exact ⟨_,p193 0#32 s hs,rfl⟩
theorem p127_one (s:ByteArray) (hs:(s.size:Int)≤9223372036854775807):Runs Fs 127 [.o (.sl 1 [.str s])] [] (.n (.int .u32 (tv (crc s)))) []:=by
 refine vc_eq fs127 rfl ?_
 rewrite[vc127,(V127e _ _).down]
 refine ⟨fun x l n i=>(i=0∧x=tv 0#32∨i=1∧x=tv (crc s))∧l=[.str s]∧n=1,fun x l n i=>(n - i).toNat,⟨rfl,.inl ⟨rfl,rfl⟩,rfl,rfl⟩,?_⟩
 rintro x l n i ⟨⟨rfl,rfl⟩|⟨rfl,rfl⟩,rfl,rfl⟩ j
 · exact sel_dec (fun h=>⟨rfl,by decide,_,rfl,s,rfl,_,p163 0#32 s hs,rfl,⟨.inr ⟨rfl,rfl⟩,rfl,rfl⟩,by show ((1:Int) - IntKind.i64.wrap (0+1)).toNat<((1:Int) - 0).toNat;decide⟩) (fun h=>absurd (by decide) h)
 · exact sel_dec (fun h=>absurd h (by decide)) (fun h=>rfl)
def le4 (n:Int):List Mir.D:=[.int .u8 (n % 256),.int .u8 (n / 256 % 256),.int .u8 (n / 65536 % 256),.int .u8 (n / 16777216 % 256)]
def SealS (s:ByteArray):ByteArray:=cat [s,strOf (le4 (tv (crc s)))]
theorem sealS_size (s:ByteArray):(SealS s).size=s.size+4:=by
 simp only[SealS,cat_size,sizes,strOf_size,le4];simp
theorem p82 (s:ByteArray) (hs:s.size≤140737488300000):Runs Fs 82 [.n (.str s)] [] (.n (.str (SealS s))) []:=by
 refine vc_eq fs82 rfl ?_
 rw[vc82]
 have hb:=tv_bound (crc s)
 have e:[Mir.D.int .u8 (IntKind.u8.wrap (tv (crc s))),Mir.D.int .u8 (IntKind.u8.wrap (Int.fdiv (tv (crc s)) (2 ^ (Min.min (Int.toNat 8) (IntKind.bits .u32))))),Mir.D.int .u8 (IntKind.u8.wrap (Int.fdiv (tv (crc s)) (2 ^ (Min.min (Int.toNat 16) (IntKind.bits .u32))))),Mir.D.int .u8 (IntKind.u8.wrap (Int.fdiv (tv (crc s)) (2 ^ (Min.min (Int.toNat 24) (IntKind.bits .u32)))))]=le4 (tv (crc s)):=by
   rw[show (2:Int) ^ (Min.min (Int.toNat 8) (IntKind.bits .u32))=256 from rfl,show (2:Int) ^ (Min.min (Int.toNat 16) (IntKind.bits .u32))=65536 from rfl,show (2:Int) ^ (Min.min (Int.toNat 24) (IntKind.bits .u32))=16777216 from rfl]
   simp only[u8_wrap,Int.fdiv_eq_ediv_of_nonneg _ (show (0:Int)≤256 by decide),Int.fdiv_eq_ediv_of_nonneg _ (show (0:Int)≤65536 by decide),Int.fdiv_eq_ediv_of_nonneg _ (show (0:Int)≤16777216 by decide)]
   rfl
 refine ⟨rfl,tv (crc s),p127_one s (by omega),by decide,by decide,by decide,rfl,.inl rfl,?_,rfl,SealS s,?_,rfl⟩
 · rw[e];rfl
 · rw[e]
   exact p83 [s,strOf (le4 (tv (crc s)))] (by simp) (by simp only[sizes,strOf_size,le4];simp;omega)
theorem p131 (s:ByteArray) (hs:s.size≤140737488300000):Runs Fs 131 [.n (.str s)] [] (.n (.str (SealS s))) []:=by
 refine vc_eq fs131 rfl ?_
 rw[vc131]
 have hb:=tv_bound (crc s)
 have e:[Mir.D.int .u8 (IntKind.u8.wrap (Int.tmod (tv (crc s)) 256)),Mir.D.int .u8 (IntKind.u8.wrap (Int.tmod (IntKind.u32.wrap (Int.tdiv (tv (crc s)) 256)) 256)),Mir.D.int .u8 (IntKind.u8.wrap (Int.tmod (IntKind.u32.wrap (Int.tdiv (tv (crc s)) 65536)) 256)),Mir.D.int .u8 (IntKind.u8.wrap (IntKind.u32.wrap (Int.tdiv (tv (crc s)) 16777216)))]=le4 (tv (crc s)):=by
   have g:∀m:Int,0<m→IntKind.u32.wrap (Int.tdiv (tv (crc s)) m)=tv (crc s) / m:=fun m hm=>by
    rw[Int.tdiv_eq_ediv_of_nonneg hb.1,u32_in]
    exact ⟨Int.ediv_nonneg hb.1 (by omega),Int.lt_of_le_of_lt (Int.ediv_le_self _ hb.1) hb.2⟩
   have g0:∀m:Int,0<m→0≤tv (crc s) / m:=fun m hm=>Int.ediv_nonneg hb.1 (by omega)
   rw[g 256 (by decide),g 65536 (by decide),g 16777216 (by decide),Int.tmod_eq_emod_of_nonneg hb.1,Int.tmod_eq_emod_of_nonneg (g0 256 (by decide)),Int.tmod_eq_emod_of_nonneg (g0 65536 (by decide))]
   simp only[u8_wrap,le4,Int.emod_emod]
 refine ⟨_,p168 s (by omega),by decide,by decide,by decide,by decide,by decide,by decide,rfl,.inl rfl,by rw[e];rfl,?_,?_⟩ <;> rw[e]
 · show ((s.size+(strOf (le4 (tv (crc s)))).size:Nat):Int)≤_
   rw[strOf_size];simp only[le4,List.length_cons,List.length_nil];omega
 · congr 2
def pg (k g:Int) (b:ByteArray):AV := .agg [.n (.int .i64 k),.n (.int .i64 g),.n (.str b)]
def pgOK (k g:Int) (b:ByteArray):Prop:=1≤k∧k≤5∧0≤g∧g≤1099511627776∧(b.size:Int)≤4000
instance (k g:Int) (b:ByteArray):Decidable (pgOK k g b):=by unfold pgOK;infer_instance
theorem right_law (k g:Int) (b:ByteArray):sel (decide (k≥1)) (sel (decide (k≤5)) (sel (decide (g≥0)) (sel (decide (g≤1099511627776)) (AV.n (Mir.D.bool (decide ((((ByteArray.size b):Nat):Int)≤4000)))=AV.n (Mir.D.bool (decide (pgOK k g b)))) (AV.n (Mir.D.bool false)=AV.n (Mir.D.bool (decide (pgOK k g b))))) (AV.n (Mir.D.bool false)=AV.n (Mir.D.bool (decide (pgOK k g b))))) (AV.n (Mir.D.bool false)=AV.n (Mir.D.bool (decide (pgOK k g b))))) (AV.n (Mir.D.bool false)=AV.n (Mir.D.bool (decide (pgOK k g b)))):=by
 have no:¬pgOK k g b→AV.n (Mir.D.bool false)=AV.n (Mir.D.bool (decide (pgOK k g b))):=fun h=>by rw[decide_eq_false h]
 refine sel_dec (fun h1=>sel_dec (fun h2=>sel_dec (fun h3=>sel_dec (fun h4 => ?_) (fun h=>no ?_)) (fun h=>no ?_)) (fun h=>no ?_)) (fun h=>no ?_)
 · have:(((b.size:Nat):Int)≤4000) ↔ pgOK k g b:=⟨fun h=>⟨h1,h2,h3,h4,h⟩,fun h=>h.2.2.2.2⟩
   exact congrArg (fun z=>AV.n (Mir.D.bool z)) (decide_eq_decide.2 this)
 all_goals
   unfold pgOK
   omega
theorem p78 (k g:Int) (b:ByteArray):Runs Fs 78 [pg k g b] [] (.n (.bool (decide (pgOK k g b)))) []:=by
 refine vc_eq fs78 rfl ?_
 unfold pg
 rewrite[vc78,(V78e _ _ _ _).down]
 exact right_law k g b
theorem p140 (k g:Int) (b:ByteArray):Runs Fs 140 [pg k g b] [] (.n (.bool (decide (pgOK k g b)))) []:=by
 refine vc_eq fs140 rfl ?_
 unfold pg
 rewrite[vc140,(V140e _ _ _ _).down]
 exact right_law k g b
def PageB (k g:Int) (b:ByteArray):ByteArray:=cat [strOf (be k 1),strOf (be g 6),TextOf b]
def PageS (k g:Int) (b:ByteArray):ByteArray:=TrimS (SealS (PageB k g b))
theorem pageB_size (k g:Int) (b:ByteArray):(PageB k g b).size=9+b.size:=by
 simp only[PageB,cat_size,sizes,strOf_size,be_length,textOf_size];omega
def PutPR (k g:Int) (b:ByteArray):AV:=if pgOK k g b then .tup [.n (.str (PageS k g b)),.n (.int .i64 0)] else .tup [.n (.str (ByteArray.mk (List.toArray []))),.n (.int .i64 1)]
theorem p36 (k g:Int) (b:ByteArray):Runs Fs 36 [pg k g b] [] (PutPR k g b) []:=by
 refine vc_eq fs36 rfl ?_
 unfold pg
 rewrite[vc36,(V36e _ _ _ _).down]
 refine ⟨_,p78 k g b,?_⟩
 by_cases h:pgOK k g b
 · have h':=h
   obtain ⟨h1,h2,h3,h4,h5⟩:=h'
   rw[decide_eq_true h]
   have hb:¬((b.size:Int) > 65535):=by omega
   refine sel_intro (fun h=>by cases h) (fun _=>⟨_,_,p79_good k 1 (by omega) (by omega) (by omega) (by show k<256;omega),_,_,p79_good g 6 (by omega) (by omega) (by omega) (by show g<281474976710656;omega),TextOf b,0,by simpa only[TextR,if_neg hb] using p80 b,rfl,PageB k g b,?_,SealS (PageB k g b),p82 _ (by rw[pageB_size];omega),PageS k g b,p81 _ (by rw[sealS_size,pageB_size];omega),by unfold PutPR;rw[if_pos h]⟩)
   exact p83 [strOf (be k 1),strOf (be g 6),TextOf b] (by simp) (by simp only[sizes,strOf_size,be_length,textOf_size];omega)
 · rw[decide_eq_false h]
   exact sel_intro (fun _=>by unfold PutPR;rw[if_neg h]) (fun h=>by cases h)
theorem cat_three (a b c:ByteArray):(a++b)++c=cat [a,b,c]:=by
 refine bytes_ext ?_
 rw[app_data,app_data,cat3,List.append_assoc]
theorem p84 (k g:Int) (b:ByteArray) (h:pgOK k g b):Runs Fs 84 [pg k g b] [] (.n (.str (PageS k g b))) []:=by
 obtain ⟨h1,h2,h3,h4,h5⟩:=h
 refine vc_eq fs84 rfl ?_
 unfold pg
 rw[vc84]
 have hb:¬((b.size:Int) > 65535):=by omega
 refine ⟨_,_,p129_good k 1 (by omega) (by omega) (by omega) (by show k<256;omega),_,_,p129_good g 6 (by omega) (by omega) (by omega) (by show g<281474976710656;omega),TextOf b,0,by simpa only[TextR,if_neg hb] using p130 b (by omega),?_,?_,?_⟩
 · simp only[strOf_size,be_length];decide
 · rw[textOf_size]
   have:∀x y:ByteArray,(x++y).size=x.size+y.size:=fun x y=>by simp
   rw[this];simp only[strOf_size,be_length];omega
 · rw[show Int.toNat 1=1 from rfl,show Int.toNat 6=6 from rfl,cat_three]
   exact ⟨SealS (PageB k g b),p131 (PageB k g b) (by rw[pageB_size];omega),_,p103 _ (by rw[sealS_size,pageB_size];omega),rfl⟩
theorem toList_data (x:ByteArray):x.toList=x.data.toList:=ByteArray.toList_eq x
theorem beq_dec (x y:ByteArray):(x.toList==y.toList)=decide (x=y):=by
 rw[toList_data,toList_data]
 by_cases h:x=y
 · subst h;simp
 · rw[decide_eq_false h]
   refine beq_eq_false_iff_ne.2 fun e=>h (bytes_ext e)
theorem sel_nb {x y:ByteArray} {A B:Prop} (h1:x≠y→A) (h2:x=y→B):sel (Bool.not (x.toList==y.toList)) A B:=by
 rw[beq_dec]
 by_cases h:x=y
 · rw[decide_eq_true h];exact h2 h
 · rw[decide_eq_false h];exact h1 h
def OpenR (x:ByteArray):AV:=
 if (x.size:Int)<4 then .tup [.n (.str (ByteArray.mk (List.toArray []))),.n (.int .i64 3)]
 else if SealS (x.extract 0 ((x.size:Int) - 4).toNat)=x then .tup [.n (.str (x.extract 0 ((x.size:Int) - 4).toNat)),.n (.int .i64 0)]
 else .tup [.n (.str (ByteArray.mk (List.toArray []))),.n (.int .i64 41)]
theorem p169 (x:ByteArray) (hs:x.size≤140737488300000):Runs Fs 169 [.n (.str x)] [] (OpenR x) []:=by
 refine vc_eq fs169 rfl ?_
 rw[vc169]
 rw[(V169e _ _).down]
 rw[i64_in ((x.size:Int) - 4) (by omega)]
 refine sel_dec (fun h=>by unfold OpenR;rw[if_pos (by omega)]) (fun h=>⟨by omega,by omega,SealS (x.extract 0 ((x.size:Int) - 4).toNat),p82 _ (by rw[ByteArray.size_extract];omega),sel_nb (fun he => ?_) (fun he=>⟨by omega,by omega,?_⟩)⟩)
 · unfold OpenR;rw[if_neg (by omega),if_neg he]
 · unfold OpenR;rw[if_neg (by omega),if_pos he]
def F (s:ByteArray):ByteArray:=padB s (4096 - s.size)
theorem F_size {s:ByteArray} (h:s.size≤4096):(F s).size=4096:=by unfold F;rw[padB_size];omega
def pErr (e:Int):AV := .tup [pg 0 0 (ByteArray.mk (List.toArray [])),.n (.int .i64 e)]
def nOf (f:ByteArray):Nat:=(num (piece f 7 2)).toNat
def GetPR (s:ByteArray):AV:=
 if 4096<s.size then pErr 1
 else if 4000<nOf (F s) then pErr 4
 else if SealS ((F s).extract 0 (9+nOf (F s)))≠(F s).extract 0 (13+nOf (F s)) then pErr 41
 else if num (piece (F s) 0 1)<1∨5<num (piece (F s) 0 1) then pErr 40
 else if ¬pgOK (num (piece (F s) 0 1)) (num (piece (F s) 1 6)) ((F s).extract 9 (9+nOf (F s))) then pErr 4
 else if TrimS ((F s).extract (13+nOf (F s)) 4096)≠ByteArray.mk (List.toArray []) then pErr 4
 else .tup [pg (num (piece (F s) 0 1)) (num (piece (F s) 1 6)) ((F s).extract 9 (9+nOf (F s))),.n (.int .i64 0)]
theorem nOf_eq (f:ByteArray):((nOf f:Nat):Int)=num (piece f 7 2):=by
 have:=(num_bound (piece f 7 2)).1
 unfold nOf;omega
theorem nOf_le (f:ByteArray):nOf f≤65535:=by
 have h:=num_bound (piece f 7 2)
 have hl:=piece_len f 7 2
 have:(256:Int) ^ (piece f 7 2).length≤256 ^ 2:=by
  have h2:(piece f 7 2).length=0∨(piece f 7 2).length=1∨(piece f 7 2).length=2:=by
   simp only[show Int.toNat 2=2 from rfl]at hl;omega
  rcases h2 with e|e|e <;> rw[e] <;> decide
 have e2:(256:Int) ^ 2=65536:=rfl
 rw[e2]at this
 unfold nOf;omega
theorem piece_pre (f:ByteArray) (n:Nat) (at_ k:Int) (h0:0≤at_) (hk:0≤k) (h:at_+k≤n):piece (f.extract 0 n) at_ k=piece f at_ k:=by
 unfold piece
 rw[ext_data,List.drop_zero,List.drop_take,List.take_take]
 congr 1
 omega
theorem ext_ext (f:ByteArray) (a b n:Nat) (h:b≤n):(f.extract 0 n).extract a b=f.extract a b:=by
 refine bytes_ext ?_
 rw[ext_data,ext_data,ext_data,List.drop_zero,List.take_take,Nat.min_eq_left h]
theorem p135 (s:ByteArray) (hs:(s.size:Int)≤9223372036854775807):Runs Fs 135 [.n (.str s)] [] (GetPR s) []:=by
 refine vc_eq fs135 rfl ?_
 rewrite[vc135,(V135e _ _).down]
 have h16:=p156 s 4096 hs
 by_cases h1:4096<s.size
 · unfold PadR at h16
   rw[if_neg (by omega),if_pos (by omega)]at h16
   exact ⟨_,_,h16,sel_intro (fun _=>by unfold GetPR;rw[if_pos h1];rfl) (fun h=>by cases h)⟩
 · rw[padR_good (by omega) (by omega)]at h16
   have eF:padB s (4096 - (s.size:Int)).toNat=F s:=by unfold F;congr 1;omega
   rw[eF]at h16
   have hF:=F_size (s:=s) (by omega)
   have hn:=nOf_eq (F s)
   have hn2:=nOf_le (F s)
   have hg:=p134 (F s) (by omega) 7 2
   rw[getR_good (by omega) (by omega)]at hg
   refine ⟨_,_,h16,sel_intro (fun h=>by cases h) (fun _=>⟨_,_,_,hg,?_⟩)⟩
   rw[←hn,i64_in (9+(nOf (F s):Int)) (by omega),i64_in (9+(nOf (F s):Int)+4) (by omega)]
   refine sel_dec (fun h=>by unfold GetPR;rw[if_neg h1,if_pos (by omega)];rfl) (fun h2 => ?_)
   have e13:(9+(nOf (F s):Int)+4).toNat=13+nOf (F s):=by omega
   rw[e13,hF]
   have hx:((F s).extract 0 (13+nOf (F s))).size=13+nOf (F s):=by rw[ByteArray.size_extract,hF];omega
   have ho:=p169 ((F s).extract 0 (13+nOf (F s))) (by omega)
   unfold OpenR at ho
   rw[if_neg (by omega),hx,show ((13+nOf (F s):Nat):Int) - 4=((9+nOf (F s):Nat):Int) by omega,Int.toNat_natCast,ext_ext _ _ _ _ (by omega)]at ho
   refine ⟨by omega,by omega,?_⟩
   by_cases h3:SealS ((F s).extract 0 (9+nOf (F s)))=(F s).extract 0 (13+nOf (F s))
   · rw[if_pos h3]at ho
     have hi:((F s).extract 0 (9+nOf (F s))).size=9+nOf (F s):=by rw[ByteArray.size_extract,hF];omega
     have hk:=p134 ((F s).extract 0 (9+nOf (F s))) (by omega) 0 1
     rw[getR_good (by omega) (by omega),piece_pre _ _ _ _ (by omega) (by omega) (by omega)]at hk
     have hgg:=p134 ((F s).extract 0 (9+nOf (F s))) (by omega) 1 6
     rw[getR_good (by omega) (by omega),piece_pre _ _ _ _ (by omega) (by omega) (by omega)]at hgg
     refine ⟨_,_,ho,sel_intro (fun h=>by cases h) (fun _=>⟨_,_,_,hk,_,_,_,hgg,by omega,by omega,?_⟩)⟩
     rw[hi,show Int.toNat 9=9 from rfl,ext_ext _ _ _ _ (by omega)]
     have e40:num (piece (F s) 0 1)<1∨5<num (piece (F s) 0 1)→pErr 40=GetPR s:=fun h=>by
       unfold GetPR;rw[if_neg h1,if_neg (by omega),if_neg (by simpa using h3),if_pos h]
     refine sel_dec (fun h=>e40 (.inl h)) (fun h4=>sel_dec (fun h=>e40 (.inr h)) (fun h5=>⟨_,p78 _ _ _,?_⟩))
     by_cases h6:pgOK (num (piece (F s) 0 1)) (num (piece (F s) 1 6)) ((F s).extract 9 (9+nOf (F s)))
     · rw[decide_eq_true h6]
       refine sel_intro (fun h=>by cases h) (fun _=>⟨by omega,by omega,_,p81 _ (by rw[ByteArray.size_extract];omega),sel_nb (fun h7 => ?_) (fun h7 => ?_)⟩)
       · unfold GetPR;rw[if_neg h1,if_neg (by omega),if_neg (by simpa using h3),if_neg (by omega),if_neg (by simpa using h6),if_pos h7];rfl
       · unfold GetPR;rw[if_neg h1,if_neg (by omega),if_neg (by simpa using h3),if_neg (by omega),if_neg (by simpa using h6),if_neg (by simpa using h7)];rfl
     · rw[decide_eq_false h6]
       exact sel_intro (fun _=>by unfold GetPR;rw[if_neg h1,if_neg (by omega),if_neg (by simpa using h3),if_neg (by omega),if_pos h6];rfl) (fun h=>by cases h)
   · rw[if_neg h3]at ho
     exact ⟨_,_,ho,sel_intro (fun _=>by unfold GetPR;rw[if_neg h1,if_neg (by omega),if_pos h3];rfl) (fun h=>by cases h)⟩
theorem piece_two (f:ByteArray) (a b:UInt8) (h7:f.data.toList[7]?=some a) (h8:f.data.toList[8]?=some b):num (piece f 7 2)=(a.toNat:Int)*256+b.toNat:=by
 obtain ⟨h7',e7⟩:=List.getElem?_eq_some_iff.1 h7
 obtain ⟨h8',e8⟩:=List.getElem?_eq_some_iff.1 h8
 have:piece f 7 2=[a,b]:=by
  unfold piece
  rw[show Int.toNat 7=7 from rfl,show Int.toNat 2=2 from rfl,List.drop_eq_getElem_cons h7',List.take_succ_cons,List.drop_eq_getElem_cons h8',List.take_succ_cons,List.take_zero,e7,e8]
 rw[this];simp[num]
theorem piece_zero (f:ByteArray) (a:UInt8) (h:f.data.toList[0]?=some a):num (piece f 0 1)=(a.toNat:Int):=by
 obtain ⟨h',e⟩:=List.getElem?_eq_some_iff.1 h
 have:piece f 0 1=[a]:=by
  unfold piece
  rw[show Int.toNat 0=0 from rfl,show Int.toNat 1=1 from rfl,List.drop_eq_getElem_cons h',List.take_succ_cons,List.take_zero,e]
 rw[this];simp[num]
theorem p95 (s:ByteArray) (hs:(s.size:Int)≤9223372036854775807):Runs Fs 95 [.n (.str s)] [] (GetPR s) []:=by
 refine vc_eq fs95 rfl ?_
 rewrite[vc95,(V95e _ _).down]
 refine sel_dec (fun h=>by unfold GetPR;rw[if_pos (by omega)];rfl) (fun h1' => ?_)
 have h1:¬4096<s.size:=by omega
 have h19:=p138 s 4096 hs
 rw[padR_good (by omega) (by omega)]at h19
 have eF:padB s (4096 - (s.size:Int)).toNat=F s:=by unfold F;congr 1;omega
 rw[eF]at h19
 have hF:=F_size (s:=s) (by omega)
 have hFl:(F s).data.toList.length=4096:=by rw[size_list,hF]
 have g7:(F s).data.toList[7]?=some (F s).data.toList[7]:=List.getElem?_eq_getElem (by omega)
 have g8:(F s).data.toList[8]?=some (F s).data.toList[8]:=List.getElem?_eq_getElem (by omega)
 have g0:(F s).data.toList[0]?=some (F s).data.toList[0]:=List.getElem?_eq_getElem (by omega)
 refine ⟨_,_,h19,by decide,_,g7,by decide,_,g8,?_⟩
 have hn:=nOf_eq (F s)
 have hn2:=nOf_le (F s)
 have e2:=piece_two (F s) _ _ g7 g8
 have e0:=piece_zero (F s) _ g0
 have b7:=((F s).data.toList[7]).toNat_lt
 have b8:=((F s).data.toList[8]).toNat_lt
 have b0:=((F s).data.toList[0]).toNat_lt
 generalize (F s).data.toList[7]=a7 at *
 generalize (F s).data.toList[8]=a8 at *
 generalize (F s).data.toList[0]=a0 at *
 have w1:IntKind.i64.wrap (IntKind.i64.wrap (256*IntKind.i64.wrap ((a7.toNat:Nat):Int))+IntKind.i64.wrap ((a8.toNat:Nat):Int))=(nOf (F s):Int):=by
   rw[i64_in ((a7.toNat:Nat):Int) (by omega),i64_in ((a8.toNat:Nat):Int) (by omega),i64_in (256*((a7.toNat:Nat):Int)) (by omega),i64_in _ (by omega)]
   omega
 rw[w1,i64_in (9+(nOf (F s):Int)) (by omega),i64_in (13+(nOf (F s):Int)) (by omega)]
 refine sel_dec (fun h=>by unfold GetPR;rw[if_neg h1,if_pos (by omega)];rfl) (fun h2 => ?_)
 rw[show (9+(nOf (F s):Int)).toNat=9+nOf (F s) by omega,show (13+(nOf (F s):Int)).toNat=13+nOf (F s) by omega,hF]
 refine ⟨by omega,by omega,_,p131 _ (by rw[ByteArray.size_extract];omega),by omega,by omega,sel_nb (fun h3=>by unfold GetPR;rw[if_neg h1,if_neg (by omega),if_pos h3];rfl) (fun h3 => ?_)⟩
 have hg:=p139 (F s) (by omega) 1 6
 rw[getR_good (by omega) (by omega)]at hg
 refine ⟨_,_,_,hg,by decide,_,g0,by omega,by omega,by decide,by omega,?_⟩
 rw[i64_in ((a0.toNat:Nat):Int) (by omega),←e0,show Int.toNat 9=9 from rfl]
 have e40:num (piece (F s) 0 1)<1∨5<num (piece (F s) 0 1)→pErr 40=GetPR s:=fun h=>by
   unfold GetPR;rw[if_neg h1,if_neg (by omega),if_neg (by simpa using h3),if_pos h]
 refine sel_dec (fun h=>e40 (.inl h)) (fun h4=>sel_dec (fun h=>e40 (.inr h)) (fun h5=>⟨_,p140 _ _ _,?_⟩))
 by_cases h6:pgOK (num (piece (F s) 0 1)) (num (piece (F s) 1 6)) ((F s).extract 9 (9+nOf (F s)))
 · rw[decide_eq_true h6]
   refine sel_intro (fun h=>by cases h) (fun _=>⟨by omega,by omega,_,p103 _ (by rw[ByteArray.size_extract];omega),sel_nb (fun h7 => ?_) (fun h7 => ?_)⟩)
   · unfold GetPR;rw[if_neg h1,if_neg (by omega),if_neg (by simpa using h3),if_neg (by omega),if_neg (by simpa using h6),if_pos h7];rfl
   · unfold GetPR;rw[if_neg h1,if_neg (by omega),if_neg (by simpa using h3),if_neg (by omega),if_neg (by simpa using h6),if_neg (by simpa using h7)];rfl
 · rw[decide_eq_false h6]
   exact sel_intro (fun _=>by unfold GetPR;rw[if_neg h1,if_neg (by omega),if_neg (by simpa using h3),if_neg (by omega),if_pos h6];rfl) (fun h=>by cases h)
theorem getP_cases (s:ByteArray):(∃e,e≠0∧GetPR s=pErr e)∨∃k g b,GetPR s = .tup [pg k g b,.n (.int .i64 0)]∧pgOK k g b∧s.size≤4096∧nOf (F s)≤4000∧SealS ((F s).extract 0 (9+nOf (F s)))=(F s).extract 0 (13+nOf (F s)) ∧
   k=num (piece (F s) 0 1)∧g=num (piece (F s) 1 6)∧b=(F s).extract 9 (9+nOf (F s))∧TrimS ((F s).extract (13+nOf (F s)) 4096)=ByteArray.mk (List.toArray []):=by
 unfold GetPR
 split
 · exact .inl ⟨1,by decide,rfl⟩
 split
 · exact .inl ⟨4,by decide,rfl⟩
 split
 · exact .inl ⟨41,by decide,rfl⟩
 split
 · exact .inl ⟨40,by decide,rfl⟩
 split
 · exact .inl ⟨4,by decide,rfl⟩
 split
 · exact .inl ⟨4,by decide,rfl⟩
 · rename_i h1 h2 h3 h4 h5 h6
   exact .inr ⟨_,_,_,rfl,by simpa using h5,by omega,by omega,by simpa using h3,rfl,rfl,rfl,by simpa using h6⟩
end Go.Proofs.YtegndijbpiccgaaGreatDoor.M
