import Derived.Test.YtegndijbpiccgaaGreatDoorR5FunB
import Derived.Test.YtegndijbpiccgaaGreatDoorMirS
namespace Go.Proofs.YtegndijbpiccgaaGreatDoor.M
set_option linter.unusedVariables false
set_option linter.unusedSimpArgs false
open Go Go.Mir
theorem Ad (n:Int)(h : -9223372036854775808<=n/\n<=9223372036854775807):w6 n=n:=by unfold w6;rw[IntKind.wrap_i64];omega
theorem Kw (n:Int):IntKind.u8.wrap n=n % 256:=by rw[IntKind.wrap_u8]
theorem mH {i:Nat}(h:i<=6):(256:Int) ^ i<=281474976710656/\(0:Int)<256 ^ i:=by
 have:i=0\/i=1\/i=2\/i=3\/i=4\/i=5\/i=6:=by omega
 rcases this with rfl|rfl|rfl|rfl|rfl|rfl|rfl<;>decide
def be (n:Int)(s:Nat):List Mir.D:=(List.range s).map λj => .int .u8 (n / 256 ^ (s-1-j) % 256)
def G8 (n:Int)(s i:Nat):List Mir.D:=(List.range s).map λj => .int .u8 (if s-1-j<i then n / 256 ^ (s-1-j) % 256 else 0)
def Cy (l:List Mir.D):bA:=ByteArray.mk (List.toArray (List.map Mir.byteOf l))
def qG (n:Int)(s:Nat):AV := .tup [aS (Cy (be n s)),aI 0]
theorem PN (n:Int)(i:Int)(h0:0<=i)(h6:i<=6):Int.fdiv n (2 ^ (Min.min (Int.toNat (w6 (8*i))) (IntKind.bits .i64)))=n / 256 ^ i.toNat:=by
 have:i=0\/i=1\/i=2\/i=3\/i=4\/i=5\/i=6:=by omega
 rcases this with rfl|rfl|rfl|rfl|rfl|rfl|rfl<;>rw[Int.fdiv_eq_ediv_of_nonneg _ (by decide)]<;>rfl
theorem nB (f:Nat->Int)(s:Nat):List.all ((List.range s).map λj=>Mir.D.int .u8 (f j)) Mir.D.isU8=true:=by simp[Mir.D.isU8]
theorem DV (n s:Int)(h1:1<=s)(h6:s<=6)(hn:0<=n)(hlt:n<256 ^ s.toNat):Runs Fs 79 [aI n,aI s] [] (qG n s.toNat) []:=by
 refine An (c:=c79) rfl rfl ?_;rewrite[ADt,(ACV _ _ _).down];refine Ab (λh1=>by omega) (λ_=>Ab (λh2=>by omega) (λ_=>Ab (λh3=>by omega) (λ_=>?_)));refine⟨by rw[Ad _ (by omega)];omega,?_⟩;rw[PN n s (by omega) (by omega)];have hz:n / 256 ^ s.toNat=0:=Int.ediv_eq_zero_of_lt hn hlt;rw[hz];refine⟨by omega,by omega,rfl,?_⟩;refine⟨λa b v len i row=>a=n/\b=s/\v=row.1/\len=s/\0<=i/\i<=s/\row.2=G8 n s.toNat i.toNat,λa b v len i row=>(s-i).toNat,⟨rfl,rfl,rfl,rfl,?_,by omega,by omega,?_⟩,?_⟩;·simp;omega
 ·refine List.ext_getElem (by simp[G8]) λi h1 h2=>?_;simp[G8]
 rintro a b v len i ⟨rv,re⟩ ⟨rfl,rfl,rfl,rfl,hi0,hi1,hre⟩ j;simp only at hre;subst hre;refine Ab (λh=>?_) (λh=>?_)
 ·have e1:w6 (w6 (len-1)-i)=len-1-i:=by rw[Ad (len-1) (by omega),Ad _ (by omega)]
  rw[PN _ i hi0 (by omega),e1,Ad (i+1) (by omega),Ad (8*i) (by omega),Kw];have hlen:(G8 a len.toNat i.toNat).length=len.toNat:=by simp[G8]
  refine⟨by omega,⟨rfl,rfl⟩,by omega,by rw[hlen];omega,⟨⟨⟨rfl,rfl⟩,rfl⟩,rfl⟩,by rw[hlen];omega,rfl,⟨rfl,rfl,rfl,rfl,by omega,by omega,?_⟩,by dsimp only;omega⟩;dsimp only;refine List.ext_getElem (by simp[G8]) λk h1 h2=>?_;have hk:k<len.toNat:=by simpa[G8] using h2
  rw[List.getElem_set];simp only[G8,List.getElem_map,List.getElem_range];by_cases hk2:(len-1-i).toNat=k;·rw[if_pos hk2,if_pos (by omega),show len.toNat-1-k=i.toNat by omega]
  ·rw[if_neg hk2];by_cases hk3:len.toNat-1-k<i.toNat;·rw[if_pos hk3,if_pos (by omega)]
   ·rw[if_neg hk3,if_neg (by omega)]
 ·have:i=len:=by omega
  subst this;refine⟨rfl,.inl rfl,nB _ _,?_⟩;have:G8 a i.toNat i.toNat=be a i.toNat:=by
   refine List.ext_getElem (by simp[G8,be]) λk h1 h2=>?_;have hk:k<i.toNat:=by simpa[be] using h2
   simp only[G8,be,List.getElem_map,List.getElem_range];rw[if_pos (by omega)]
  dsimp only;rw[this];rfl
def CT (n:Int):Nat->List UInt8
 | 0=>[]
 | s+1=>UInt8.ofNat (n / 256 ^ s % 256).toNat::CT n s
theorem bF (n:Int)(s:Nat):be n (s+1) = .int .u8 (n / 256 ^ s % 256)::be n s:=by
 unfold be;rw[List.range_succ_eq_map,List.map_cons,List.map_map];refine congr (congrArg _ ?_) ?_;·simp
 ·refine List.map_congr_left λj hj=>?_;simp only[List.mem_range]at hj;simp only[Function.comp];rw[show s+1-1-(j+1)=s-1-j by omega]
theorem Ew (n:Int):∀s,List.map Mir.byteOf (be n s)=CT n s
 | 0=>rfl
 | s+1=>by rw[bF,List.map_cons,Ew n s];rfl
theorem aP (n P:Int)(hP:0<P):n % (P*256)=n / P % 256*P+n % P:=by
 have h1:=Int.mul_ediv_add_emod n P;have h2:=Int.mul_ediv_add_emod (n / P) 256;have h3:=Int.emod_nonneg n (b:=P) (by omega);have h4:=Int.emod_lt_of_pos n hP;have h5:=Int.emod_nonneg (n / P) (b:=256) (by omega);have h6:=Int.emod_lt_of_pos (n / P) (b:=256) (by omega);have e:n=(n / P % 256*P+n % P)+(P*256)*(n / P / 256):=by
  have:P*(n / P)=P*(256*(n / P / 256)+n / P % 256):=by rw[h2]
  rw[Int.mul_add,<-Int.mul_assoc]at this;have c:n / P % 256*P=P*(n / P % 256):=Int.mul_comm _ _;omega
 have lo:0<=n / P % 256*P:=Int.mul_nonneg h5 (by omega);have hi:n / P % 256*P<=255*P:=Int.mul_le_mul_of_nonneg_right (by omega) (by omega);rw[show n % (P*256)=((n / P % 256*P+n % P)+(P*256)*(n / P / 256)) % (P*256) by rw[<-e],Int.add_mul_emod_self_left];exact Int.emod_eq_of_lt (by omega) (by omega)
def CN (l:List UInt8):Int:=l.foldl (λn b=>n*256+(b.toNat:Int)) 0
theorem Rc (l:List UInt8)(b:UInt8):CN (l++[b])=CN l*256+(b.toNat:Int):=by simp[CN]
theorem Re:∀(l:List UInt8) (a:Int),0<=a->a*256 ^ l.length<=l.foldl (λn b=>n*256+(b.toNat:Int)) a/\l.foldl (λn b=>n*256+(b.toNat:Int)) a<(a+1)*256 ^ l.length
 | [],a,h=>by simp;omega
 | b::r,a,h=>by
  have hb:=b.toNat_lt;obtain⟨h1,h2⟩:=Re r (a*256+(b.toNat:Int)) (by omega);have hP:(0:Int)<256 ^ r.length:=Int.pow_pos (by omega);simp only[List.foldl_cons,List.length_cons,Int.pow_succ];generalize (256:Int) ^ r.length=P at *;have e1:a*(P*256)<=(a*256+(b.toNat:Int))*P:=by rw[Int.mul_comm P 256,<-Int.mul_assoc];exact Int.mul_le_mul_of_nonneg_right (by omega) (by omega)
  have e2:(a*256+(b.toNat:Int)+1)*P<=(a+1)*(P*256):=by rw[Int.mul_comm P 256,<-Int.mul_assoc];exact Int.mul_le_mul_of_nonneg_right (by omega) (by omega)
  omega
theorem Fp (l:List UInt8):0<=CN l/\CN l<256 ^ l.length:=by have:=Re l 0 (by omega);unfold CN;omega
theorem R6 {l:List UInt8}(h:l.length<=6):0<=CN l/\CN l<281474976710656:=by have:=Fp l;have:=mH h;omega
def Ar (s:bA)(at_ k:Int):List UInt8:=(s.data.toList.drop at_.toNat).take k.toNat
def H8 (s:bA)(at_ k:Int):AV:=
 if k<1\/6<k\/at_<0\/(s.size:Int)<at_ then .tup [aI 0,aI 0,aI 1]
 else if (s.size:Int)-at_<k then .tup [aI 0,aI 0,aI 3]
 else .tup [aI (CN (Ar s at_ k)),aI (at_+k),aI 0]
theorem IS {s:bA}{at_ k:Int}(h:k<1\/6<k\/at_<0\/(s.size:Int)<at_):H8 s at_ k = .tup [aI 0,aI 0,aI 1]:=if_pos h
theorem CA {s:bA}{at_ k:Int}(h:¬(k<1\/6<k\/at_<0\/(s.size:Int)<at_))(h2:(s.size:Int)-at_<k):H8 s at_ k = .tup [aI 0,aI 0,aI 3]:=by unfold H8;rw[if_neg h,if_pos h2]
theorem Bj {s:bA}{at_ k:Int}(h:¬(k<1\/6<k\/at_<0\/(s.size:Int)<at_))(h2:¬(s.size:Int)-at_<k):H8 s at_ k = .tup [aI (CN (Ar s at_ k)),aI (at_+k),aI 0]:=by unfold H8;rw[if_neg h,if_neg h2]
theorem Ao (s:bA):s.data.toList.length=s.size:=rfl
theorem LA (s:bA)(at_ i:Int)(h0:0<=at_)(hi:0<=i)(h:at_+i<s.size):∃b,s.data.toList[(at_+i).toNat]?=some b/\Ar s at_ (i+1)=Ar s at_ i++[b]:=by
 have hl:=Ao s;have hlt:(at_+i).toNat<s.data.toList.length:=by omega
 refine⟨s.data.toList[(at_+i).toNat],gI hlt,?_⟩;unfold Ar;rw[show(i+1).toNat=i.toNat+1 by omega,List.take_add_one];congr 1;rw[List.getElem?_drop,show at_.toNat+i.toNat=(at_+i).toNat by omega,gI hlt];rfl
theorem FQ (s:bA)(at_ k:Int):(Ar s at_ k).length<=k.toNat:=by unfold Ar;rw[List.length_take];omega
theorem VA (s:bA)(hs:(s.size:Int)<=9223372036854775807)(at_ k:Int):Runs Fs 139 [aS s,aI at_,aI k] [] (H8 s at_ k) []:=by
 refine An (c:=c139) rfl rfl ?_;rewrite[tZ,(wF _ _ _ _).down];have b1:∀ {p:Prop},p->(p->k<1\/6<k\/at_<0\/(s.size:Int)<at_)->Mir.AV.tup [.n (.int .i64 0),.n (.int .i64 0),.n (.int .i64 1)]=H8 s at_ k:=λh g=>(IS (g h)).symm;refine Ab (λh=>b1 h (by omega)) (λh1=>Ab (λh=>b1 h (by omega)) (λh2=>Ab (λh=>b1 h (by omega)) (λh3=>Ab (λh=>b1 h (by omega)) (λh4=>?_))));rw[Ad _ (by omega)];refine Ab (λh=>(CA (by omega) h).symm) (λh5=>?_);rw[Bj (by omega) h5];refine⟨λt a n v i=>t=s/\a=at_/\n=k/\v=CN (Ar s at_ i)/\0<=i/\i<=k,λt a n v i=>(k-i).toNat,⟨rfl,rfl,rfl,rfl,by simp[Ar,CN],by omega,by omega⟩,?_⟩;rintro t a n v i ⟨rfl,rfl,rfl,rfl,hi0,hi1⟩ j;refine Ab (λh=>?_) (λh=>?_);·obtain⟨b,hb,hp⟩:=LA t a i (by omega) hi0 (by omega);have hn:=R6 (l:=Ar t a i) (by have:=FQ t a i;omega);have hb2:=b.toNat_lt;rw[Ad (a+i) (by omega),Ad (i+1) (by omega)];refine⟨by omega,b,hb,rfl,⟨rfl,rfl,rfl,?_,by omega,by omega⟩,by dsimp only;omega⟩;rw[hp,Rc,Ad (_*256) (by omega),Ad ((b.toNat:Int)) (by omega),Ad _ (by omega)]
 ·rw[Ad (a+n) (by omega),show i=n by omega]
theorem rQ (a c:Int)(ha:0<=a)(ha2:a<281474976710656)(hc:0<=c)(hc2:c<256):
  w6 ((BitVec.toNat (HOr.hOr (BitVec.ofInt (IntKind.bits .i64) (w6 (a*(2 ^ (Min.min (Int.toNat 8) (IntKind.bits .i64)))))) (BitVec.ofInt (IntKind.bits .i64) (w6 c))):Nat):Int)=a*256+c:=by
 have e:(2:Int) ^ (Min.min (Int.toNat 8) (IntKind.bits .i64))=256:=rfl
 rw[e,Ad (a*256) (by omega),Ad c (by omega)]
 have hb:IntKind.bits .i64=64:=rfl
 rw[hb]
 obtain⟨a,rfl⟩:=Int.eq_ofNat_of_zero_le ha
 obtain⟨c,rfl⟩:=Int.eq_ofNat_of_zero_le hc
 have h1:(BitVec.ofInt 64 ((a:Int)*256))=BitVec.ofNat 64 (2 ^ 8*a):=by rw[show((a:Int)*256)=((2 ^ 8*a:Nat):Int) by omega,BitVec.ofInt_natCast]
 have h2:(BitVec.ofInt 64 (c:Int))=BitVec.ofNat 64 c:=BitVec.ofInt_natCast _ _
 rw[h1,h2,BitVec.toNat_or,BitVec.toNat_ofNat,BitVec.toNat_ofNat,Nat.mod_eq_of_lt (by omega),Nat.mod_eq_of_lt (by omega),<-Nat.two_pow_add_eq_or_of_lt (by omega)]
 rw[Ad _ (by omega)]
 omega
theorem MR (s:bA)(at_ k:Int)(h0:0<=at_)(hk:0<=k)(h:at_+k<=s.size):bytesD (s.extract at_.toNat (at_+k).toNat)=(Ar s at_ k).map λb=>Mir.D.int .u8 (b.toNat:Int):=by unfold bytesD Ar;congr 1;simp[ByteArray.data_extract,Array.toList_extract,List.extract];rw[show(at_+k).toNat-at_.toNat=k.toNat by omega]
theorem SP (s:bA)(hs:(s.size:Int)<=9223372036854775807)(at_ k:Int):Runs Fs 134 [aS s,aI at_,aI k] [] (H8 s at_ k) []:=by
 refine An (c:=c134) rfl rfl ?_;rewrite[ABq,(AAT _ _ _ _).down];have b1:∀ {p:Prop},p->(p->k<1\/6<k\/at_<0\/(s.size:Int)<at_)->Mir.AV.tup [.n (.int .i64 0),.n (.int .i64 0),.n (.int .i64 1)]=H8 s at_ k:=λh g=>(IS (g h)).symm;refine Ab (λh=>b1 h (by omega)) (λh1=>Ab (λh=>b1 h (by omega)) (λh2=>Ab (λh=>b1 h (by omega)) (λh3=>Ab (λh=>b1 h (by omega)) (λh4=>?_))));rw[Ad _ (by omega)];refine Ab (λh=>(CA (by omega) h).symm) (λh5=>?_);rw[Bj (by omega) h5,Ad (at_+k) (by omega),MR s at_ k (by omega) (by omega) (by omega)];have hlen:(Ar s at_ k).length=k.toNat:=by unfold Ar;rw[List.length_take,List.length_drop,Ao];omega
 refine⟨by omega,by omega,by omega,by omega,?_⟩;refine⟨λa n v els len i=>a=at_/\n=k/\v=CN (Ar s at_ i)/\els=((Ar s at_ k).map λb=>Mir.D.int .u8 (b.toNat:Int))/\len=k/\0<=i/\i<=k,λa n v els len i=>(k-i).toNat,⟨rfl,rfl,rfl,by simp[Ar,CN],rfl,by rw[List.length_map,hlen];omega,by omega,by omega⟩,?_⟩;rintro a n v els len i ⟨rfl,rfl,rfl,rfl,rfl,hi0,hi1⟩ j;refine Ab (λh=>?_) (λh=>?_)
 ·obtain⟨b,hb,hp⟩:=LA s a i (by omega) hi0 (by omega);have hn:=R6 (l:=Ar s a i) (by have:=FQ s a i;omega);have hb2:=b.toNat_lt;have he:((Ar s a len).map λb=>Mir.D.int .u8 (b.toNat:Int))[i.toNat]?=some (.int .u8 (b.toNat:Int)):=by rw[List.getElem?_map];unfold Ar;rw[List.getElem?_take_of_lt (by omega),List.getElem?_drop,show a.toNat+i.toNat=(a+i).toNat by omega,hb];rfl
  rw[Ad (i+1) (by omega)];refine⟨rfl,hi0,_,he,(b.toNat:Int),rfl,by decide,rfl,⟨rfl,rfl,?_,rfl,rfl,by omega,by omega⟩,by dsimp only;omega⟩;rw[rQ _ _ hn.1 hn.2 (by omega) (by omega),hp,Rc]
 ·rw[show i=len by omega,Ad (a+len) (by omega)]
theorem mA (xs:List bA)(h1:xs.length<=140737488355328)(h2:Ef xs<=140737488355328):Runs Fs 83 [aL (xs.map Mir.D.str)] [] (aS (MQ xs)) []:=by refine An (c:=c83) rfl rfl ?_;rewrite[AFm,(AGA _ _).down];exact⟨_,U4 AAc xs h1 h2,rfl⟩
theorem BR (l:List Mir.D):(Cy l).size=l.length:=by simp[Cy,ByteArray.size]
theorem Eo (n:Int)(s:Nat):(be n s).length=s:=by simp[be]
def Dl (s:bA):bA:=MQ [Cy (be s.size 2),s]
def NS (s:bA):AV:=if (s.size:Int) > 65535 then .tup [aS (ByteArray.mk (List.toArray [])),aI 2] else .tup [aS (Dl s),aI 0]
theorem DQ (s:bA):(Dl s).size=2+s.size:=by simp only[Dl,FH,Ef,BR,Eo];omega
theorem p80 (s:bA):Runs Fs 80 [aS s] [] (NS s) []:=by
 refine An (c:=c80) rfl rfl ?_;rewrite[AFK,(AEy _ _).down];refine Ab (λh=>?_) (λh=>?_);·unfold NS;rw[if_pos h]
 ·refine⟨_,_,DV s.size 2 (by omega) (by omega) (by omega) (by simp;omega),rfl,_,mA [Cy (be s.size 2),s] (by simp) (by simp only[Ef,BR,Eo];omega),?_⟩;unfold NS;rw[if_neg h];rfl
theorem G4 (xs:List bA):(MQ xs).data.toList=(xs.map (·.data.toList)).flatten:=by simp[MQ]
theorem JP:∀(l:List UInt8) (a:Int),l.foldl (λn b=>n*256+(b.toNat:Int)) a=a*256 ^ l.length+CN l
 | [],a=>by simp[CN]
 | b::r,a=>by have h1:=JP r (a*256+(b.toNat:Int));have h2:=JP r (0*256+(b.toNat:Int));simp only[List.foldl_cons,List.length_cons,CN,Int.pow_succ]at h1 h2 |-;rw[h1,h2,Int.add_mul,Int.mul_assoc,Int.mul_comm 256 (256 ^ r.length)];simp only[Int.zero_mul,Int.zero_add,Int.add_assoc]
theorem YM (b:UInt8)(l:List UInt8):CN (b::l)=(b.toNat:Int)*256 ^ l.length+CN l:=by have:=JP l (0*256+(b.toNat:Int));simp only[CN,List.foldl_cons]at this |-;rw[this];simp
theorem Ap (n:Int):∀s,(CT n s).length=s
 | 0=>rfl
 | s+1=>by simp[CT,Ap n s]
theorem Eh (n:Int):∀s,CN (CT n s)=n % 256 ^ s
 | 0=>by simp[CT,CN]
 | s+1=>by have hp:(0:Int)<256 ^ s:=Int.pow_pos (by decide);have h0:0<=n / 256 ^ s % 256:=Int.emod_nonneg _ (by decide);have h1:n / 256 ^ s % 256<256:=Int.emod_lt_of_pos _ (by decide);rw[CT,YM,Eh n s,Ap,Int.pow_succ,aP n _ hp];congr 2;simp only[UInt8.toNat_ofNat'];omega
theorem Dv (l:List Mir.D):(Cy l).data.toList=l.map Mir.byteOf:=by simp[Cy]
theorem Dr (s:bA)(a b:Nat):(s.extract a b).data.toList=(s.data.toList.take b).drop a:=by simp[ByteArray.data_extract,List.drop_take]
theorem DX (s:bA):(Dl s).data.toList=CT s.size 2++s.data.toList:=by simp only[Dl,G4,List.map_cons,List.map_nil,List.flatten_cons,List.flatten_nil,List.append_nil,Dv,Ew]
theorem Yk (a b c:bA):(MQ [a,b,c]).data.toList=a.data.toList++(b.data.toList++c.data.toList):=by rw[G4];simp
theorem UM (a b c:bA)(k:Int)(hk:k.toNat<=b.size):Ar (MQ [a,b,c]) a.size k=b.data.toList.take k.toNat:=by
 unfold Ar;rw[Yk];have e:(a.size:Int).toNat=a.data.toList.length:=by simp[Ao]
 rw[e,List.drop_left,List.take_append_of_le_length (by rw[Ao];exact hk)]
theorem Nf (a b c:bA):(MQ [a,b,c]).size=a.size+b.size+c.size:=by simp only[FH,Ef];omega
theorem AQ {a b:bA}(h:a.data.toList=b.data.toList):a=b:=by cases a;cases b;simp only[ByteArray.mk.injEq];exact Array.toList_inj.1 h
theorem eN {α:Type}[BEq α][ReflBEq α]{x:α}{A B:Prop}(h:A):Ae (x==x) A B:=by rw[beq_self_eq_true];exact h
def tz (l:List UInt8):List UInt8:=Lib.trimRightB l 0
theorem kG:tz []=[]:=rfl
theorem Ms (l:List UInt8):tz (l++[0])=tz l:=by simp[tz,Lib.trimRightB]
theorem OF (l:List UInt8)(b:UInt8)(h:b≠0):tz (l++[b])=l++[b]:=by simp[tz,Lib.trimRightB,h]
theorem IT (l:List UInt8):∀n,tz (l++List.replicate n 0)=tz l
 | 0=>by simp
 | n+1=>by rw[List.replicate_succ',<-List.append_assoc,Ms,IT l n]
theorem Sm (l:List UInt8):l=[]\/∃r b,l=r++[b]:=by
 rcases List.eq_nil_or_concat l with h|⟨r,b,h⟩
 ·exact .inl h
 ·exact .inr ⟨r,b,by simpa using h⟩
theorem FE:∀(k:Nat) (l:List UInt8),l.length=k->∃n,l=tz l++List.replicate n 0/\(tz l=[]\/∃r b,tz l=r++[b]/\b≠0)
 | 0,l,h=>by obtain rfl:l=[]:=List.eq_nil_of_length_eq_zero h;exact⟨0,rfl,.inl rfl⟩
 | k+1,l,h=>by
  rcases Sm l with rfl|⟨r,b,rfl⟩
  ·cases h
  ·by_cases hb:b=0;·subst hb;obtain⟨n,h1,h2⟩:=FE k r (by simpa using h);rw[Ms];exact⟨n+1,by rw[List.replicate_succ',<-List.append_assoc,<-h1],h2⟩
   ·rw[OF r b hb];exact⟨0,by simp,.inr ⟨r,b,rfl,hb⟩⟩
theorem YQ (l:List UInt8):(tz l).length<=l.length:=by obtain⟨n,h,_⟩:=FE _ l rfl;have:=congrArg List.length h;rw[List.length_append,List.length_replicate]at this;omega
theorem Oo (l:List UInt8):tz (tz l)=tz l:=by
 obtain⟨n,_,h|⟨r,b,h,hb⟩⟩:=FE _ l rfl;·rw[h];rfl
 ·rw[h,OF r b hb]
def TrimS (s:bA):bA:=PC s 0
theorem Bp (s:bA):(TrimS s).data.toList=tz s.data.toList:=by simp[TrimS,PC,tz]
theorem H5 (s:bA):(TrimS s).size<=s.size:=by have:=YQ s.data.toList;rw[<-Bp,Ao,Ao]at this;exact this
theorem sE (s:bA)(hs:(s.size:Int)<=9223372036854775807):Runs Fs 81 [aS s] [] (aS (TrimS s)) []:=by refine An (c:=c81) rfl rfl ?_;rewrite[AC3,(ADL _ _).down];exact⟨_,Uv uZ s 0 (by decide) (by omega),rfl⟩
theorem ADr (s:bA)(hs:(s.size:Int)<=9223372036854775807):Runs Fs 103 [.n (.str s)] [] (.n (.str (TrimS s))) []:=by
 refine An (c:=c103) rfl rfl ?_;rewrite[uS,(ACl _ _).down];refine⟨λt n=>t=s/\0<=n/\n<=s.size/\tz (s.data.toList.take n.toNat)=tz s.data.toList,λt n=>n.toNat,⟨rfl,rfl,by omega,by omega,by rw[show((s.size:Nat):Int).toNat=s.data.toList.length by simp[Ao],List.take_length]⟩,?_⟩;rintro t n ⟨rfl,h0,h1,hz⟩ j;have done:tz (t.data.toList.take n.toNat)=t.data.toList.take n.toNat->0<=n/\(n<=t.size/\AV.n (Mir.D.str (t.extract 0 n.toNat))=AV.n (Mir.D.str (TrimS t))):=λh=>by refine⟨h0,h1,?_⟩;congr 2;refine AQ ?_;rw[Dr,Bp,<-hz,h];rfl
 refine Ab (λh=>?_) (λh=>?_)
 ·rw[Ad (n-1) (by omega)];have hlt:(n-1).toNat<t.data.toList.length:=by rw[Ao];omega
  have hsp:t.data.toList.take n.toNat=t.data.toList.take (n-1).toNat++[t.data.toList[(n-1).toNat]]:=by rw[show n.toNat=(n-1).toNat+1 by omega,List.take_add_one,gI hlt];rfl
  refine⟨by omega,_,gI hlt,Aa (λhb=>?_) (λhb=>done ?_)⟩
  ·have hb0:t.data.toList[(n-1).toNat]=0:=by
    have:(t.data.toList[(n-1).toNat]).toNat=0:=by have:=beq_iff_eq.1 hb;omega
    exact UInt8.toNat_inj.1 this
   refine⟨rfl,⟨rfl,by omega,by omega,?_⟩,by dsimp only;omega⟩;rw[<-hz,hsp,hb0,Ms]
  ·rw[hsp,OF];intro h0;rw[h0]at hb;simp at hb
 ·refine done ?_;have:n.toNat=0:=by omega
  rw[this,List.take_zero];rfl
def Li (s:bA)(n:Nat):bA:=⟨(s.data.toList++List.replicate n 0).toArray⟩
theorem Dw (s:bA)(n:Nat):(Li s n).data.toList=s.data.toList++List.replicate n 0:=by simp[Li]
theorem UO (s:bA)(n:Nat):(Li s n).size=s.size+n:=by have:=congrArg List.length (Dw s n);rw[Ao,List.length_append,List.length_replicate,Ao]at this;exact this
def L4 (s:bA)(k:Int):AV:=
 if k<0\/4096<k then .tup [aS (ByteArray.mk (List.toArray [])),aI 1]
 else if (s.size:Int) > k then .tup [aS (ByteArray.mk (List.toArray [])),aI 2]
 else .tup [aS (Li s (k-s.size).toNat),aI 0]
theorem FD {s:bA}{k:Int}(h0:(s.size:Int)<=k)(h1:k<=4096):L4 s k = .tup [aS (Li s (k-s.size).toNat),aI 0]:=by unfold L4;rw[if_neg (by omega),if_neg (by omega)]
theorem M8:∀n,Lib.repeatL [(0:UInt8)] n=List.replicate n 0
 | 0=>rfl
 | n+1=>by rw[Lib.repeatL,M8 n,List.replicate_succ];rfl
theorem ABH (s:bA)(k:Int)(hs:(s.size:Int)<=9223372036854775807):Runs Fs 156 [.n (.str s),.n (.int .i64 k)] [] (L4 s k) []:=by
 refine An (c:=c156) rfl rfl ?_;rewrite[vU,(AAE _ _ _).down];refine Ab (λh=>by unfold L4;rw[if_pos (by omega)]) (λh1=>Ab (λh=>by unfold L4;rw[if_pos (by omega)]) (λh2=>Ab (λh=>by unfold L4;rw[if_neg (by omega),if_pos (by omega)]) (λh3=>?_)));rw[Ad _ (by omega)];have hz:(RM (ByteArray.mk (List.toArray [0])) (k-s.size).toNat).data.toList=List.replicate (k-s.size).toNat 0:=by simp[RM,M8]
 have hzs:(RM (ByteArray.mk (List.toArray [0])) (k-s.size).toNat).size=(k-s.size).toNat:=by have:=congrArg List.length hz;rwa [Ao,List.length_replicate]at this
 refine⟨_,QB yI (ByteArray.mk (List.toArray [0])) (k-s.size) (by omega) (by omega) (by show 1*_<=_;omega),rfl,_,mA [s,RM (ByteArray.mk (List.toArray [0])) (k-s.size).toNat] (by simp) (by simp only[Ef,hzs];omega),?_⟩;rw[FD (by omega) (by omega)];congr 3;congr 1;refine AQ ?_;rw[G4,Dw];simp only[List.map_cons,List.map_nil,List.flatten_cons,List.flatten_nil,List.append_nil,hz]
theorem Y5 (a b:bA):(a++b).data.toList=a.data.toList++b.data.toList:=by simp
theorem AFl (s:bA)(k:Int)(hs:(s.size:Int)<=9223372036854775807):Runs Fs 138 [.n (.str s),.n (.int .i64 k)] [] (L4 s k) []:=by
 refine An (c:=c138) rfl rfl ?_;rewrite[ABP,(tE _ _ _).down];refine Ab (λh=>by unfold L4;rw[if_pos (by omega)]) (λh1=>Ab (λh=>by unfold L4;rw[if_pos (by omega)]) (λh2=>Ab (λh=>by unfold L4;rw[if_neg (by omega),if_pos (by omega)]) (λh3=>?_)));rw[Ad _ (by omega)];have hz:∀n:Nat,(ByteArray.mk (List.toArray (List.map Mir.byteOf (List.replicate n (Mir.D.int .u8 0))))).data.toList=List.replicate n 0:=λn=>by simp[Mir.byteOf]
 have hzs:(ByteArray.mk (List.toArray (List.map Mir.byteOf (List.replicate (k-s.size).toNat (Mir.D.int .u8 0))))).size=(k-s.size).toNat:=by have:=congrArg List.length (hz (k-s.size).toNat);rwa [Ao,List.length_replicate]at this
 refine⟨by omega,by omega,rfl,.inl rfl,by simp[Mir.D.isU8],by rw[hzs];omega,?_⟩;rw[FD (by omega) (by omega)];congr 3;congr 1;refine AQ ?_;rw[Y5,Dw,hz]
def MO:BitVec 32:=2197175160#32
def T1 (c:BitVec 32):BitVec 32:=(c >>> 1) ^^^ (if c.getLsbD 0 then MO else 0#32)
def it:Nat->BitVec 32->BitVec 32
 | 0,c=>c
 | k+1,c=>T1 (it k c)
def Vv (b:UInt8):BitVec 32:=BitVec.ofNat 32 b.toNat
def TA (c:BitVec 32)(b:UInt8):BitVec 32:=it 8 (c ^^^ Vv b)
def Gn (c:BitVec 32)(l:List UInt8):BitVec 32:=l.foldl TA c
def tv (c:BitVec 32):Int:=(c.toNat:Int)
theorem KT (n:Int)(h:0<=n/\n<4294967296):IntKind.u32.wrap n=n:=by rw[IntKind.wrap_u32];omega
theorem GI (c:BitVec 32):0<=tv c/\tv c<4294967296:=by have:=c.isLt;unfold tv;omega
theorem Iy (c:BitVec 32):IntKind.u32.wrap (((c.toNat:Nat)):Int)=tv c:=KT _ (GI c)
theorem Mq (c:BitVec 32):BitVec.ofInt (IntKind.bits .u32) (tv c)=c:=by show BitVec.ofInt 32 ((c.toNat:Nat):Int)=c;rw[BitVec.ofInt_natCast,BitVec.ofNat_toNat,BitVec.setWidth_eq]
theorem Uc (c:BitVec 32):c.getLsbD 0=decide (c.toNat % 2=1):=by rw[BitVec.getLsbD,Nat.testBit_eq_decide_div_mod_eq];simp
theorem cK (c:BitVec 32):c &&& 1#32=if c.getLsbD 0 then 1#32 else 0#32:=by
 apply BitVec.eq_of_toNat_eq;rw[BitVec.toNat_and,Uc];show c.toNat &&& 1=_;rw[Nat.and_one_is_mod];by_cases h:c.toNat % 2=1;·simp[h]
 ·have:c.toNat % 2=0:=by omega
  simp[this]
theorem Uk (c:BitVec 32):Int.fdiv (tv c) 2=tv (c >>> 1):=by unfold tv;rw[Int.fdiv_eq_ediv_of_nonneg _ (by decide),BitVec.toNat_ushiftRight,Nat.shiftRight_eq_div_pow];omega
theorem cU (c:BitVec 32):IntKind.u32.wrap (0-tv c)=tv (-c):=by
 unfold tv;rw[IntKind.wrap_u32,BitVec.toNat_neg];have:=c.isLt;by_cases h:c.toNat=0;·rw[h];decide
 ·omega
theorem ZG (c:BitVec 32):MO &&& -(c &&& 1#32)=if c.getLsbD 0 then MO else 0#32:=by
 rw[cK];cases c.getLsbD 0;·decide
 ·decide
theorem VO (c:BitVec 32):
  IntKind.u32.wrap (((BitVec.toNat (HXor.hXor (BitVec.ofInt (IntKind.bits .u32) (Int.fdiv (tv c) (2 ^ (Min.min (Int.toNat 1) (IntKind.bits .u32))))) (BitVec.ofInt (IntKind.bits .u32) (IntKind.u32.wrap (((BitVec.toNat (HAnd.hAnd (BitVec.ofInt (IntKind.bits .u32) 2197175160) (BitVec.ofInt (IntKind.bits .u32) (IntKind.u32.wrap (0-(IntKind.u32.wrap (((BitVec.toNat (HAnd.hAnd (BitVec.ofInt (IntKind.bits .u32) (tv c)) (BitVec.ofInt (IntKind.bits .u32) 1))):Nat):Int))))))):Nat):Int))))):Nat):Int)=tv (T1 c):=by
 have e2:(2:Int) ^ (Min.min (Int.toNat 1) (IntKind.bits .u32))=2:=rfl
 have e1:BitVec.ofInt (IntKind.bits .u32) 1=1#32:=rfl
 have ep:BitVec.ofInt (IntKind.bits .u32) 2197175160=MO:=rfl
 rw[e2,e1,ep,Uk,Mq,Mq]
 have h1:IntKind.u32.wrap (((BitVec.toNat (c &&& 1#32)):Nat):Int)=tv (c &&& 1#32):=Iy _
 have h2:(HAnd.hAnd c 1#32:BitVec 32)=c &&& 1#32:=rfl
 erw[h1,cU,Mq]
 have h3:IntKind.u32.wrap (((BitVec.toNat (MO &&& -(c &&& 1#32))):Nat):Int)=tv (MO &&& -(c &&& 1#32)):=Iy _
 erw[h3,Mq,ZG]
 exact Iy _
theorem PT (c d:BitVec 32)(y:Int)(hy:y=tv d):IntKind.u32.wrap (((BitVec.toNat (HXor.hXor (BitVec.ofInt (IntKind.bits .u32) (tv c)) (BitVec.ofInt (IntKind.bits .u32) y))):Nat):Int)=tv (c ^^^ d):=by subst hy;rw[Mq,Mq];exact Iy _
theorem Tt (c:BitVec 32):IntKind.u32.wrap (((BitVec.toNat (HXor.hXor (BitVec.ofInt (IntKind.bits .u32) (IntKind.max .u32)) (BitVec.ofInt (IntKind.bits .u32) (tv c)))):Nat):Int)=tv (~~~ c):=by
 rw[Mq];have e:BitVec.ofInt (IntKind.bits .u32) (IntKind.max .u32)=BitVec.allOnes 32:=rfl;rw[e];have:(HXor.hXor (BitVec.allOnes 32) c:BitVec 32) = ~~~ c:=by rw[BitVec.allOnes_xor]
 erw[this];exact Iy _
theorem Tq (c:BitVec 32):IntKind.u32.wrap (4294967295-tv c)=tv (~~~ c):=by unfold tv;have:=c.isLt;rw[BitVec.toNat_not,IntKind.wrap_u32];omega
theorem AAd (b:UInt8):IntKind.u32.wrap ((b.toNat:Nat):Int)=tv (Vv b):=by have:=b.toNat_lt;unfold tv Vv;rw[KT _ (by omega),BitVec.toNat_ofNat,Nat.mod_eq_of_lt (by omega)]
theorem MC (c:BitVec 32)(l:List UInt8)(b:UInt8):Gn c (l++[b])=TA (Gn c l) b:=by simp[Gn]
theorem ACQ (c:BitVec 32)(s:bA)(hs:(s.size:Int)<=9223372036854775807):Runs Fs 163 [.n (.int .u32 (tv c)),aS s] [] (.n (.int .u32 (tv (~~~ (Gn (~~~ c) s.data.toList))))) []:=by
 refine An (c:=c163) rfl rfl ?_;rewrite[tX,(AB6 _ _ _).down];have hl:(bytesD s).length=s.size:=by simp[bytesD,Ao]
 refine⟨λx l n i=>x=tv (Gn (~~~ c) (s.data.toList.take i.toNat))/\l=bytesD s/\n=s.size/\0<=i/\i<=s.size,λx l n i=>(n-i).toNat,⟨rfl,by rw[Tt];rfl,rfl,by rw[hl],by omega,by omega⟩,?_⟩;rintro x l n i ⟨rfl,rfl,rfl,h0,h1⟩ j;refine Ab (λh=>?_) (λh=>?_)
 ·have hlt:i.toNat<s.data.toList.length:=by rw[Ao];omega
  have hg:(bytesD s)[i.toNat]?=some (.int .u8 ((s.data.toList[i.toNat]).toNat:Int)):=by unfold bytesD;rw[List.getElem?_map,gI hlt];rfl
  refine⟨rfl,h0,_,hg,_,rfl,?_⟩;rw[PT _ (Vv s.data.toList[i.toNat]) _ (AAd _)];refine⟨λy l' n' i' k=>y=tv (it k.toNat (Gn (~~~ c) (s.data.toList.take i.toNat) ^^^ Vv s.data.toList[i.toNat]))/\l'=bytesD s/\n'=s.size/\i'=i/\0<=k/\k<=8,λy l' n' i' k=>(8-k).toNat,⟨rfl,rfl,rfl,rfl,rfl,by omega,by omega⟩,?_⟩;rintro y l' n' i' k ⟨rfl,rfl,rfl,rfl,k0,k1⟩ j';refine Ab (λhk=>?_) (λhk=>?_);·rw[VO,Ad (k+1) (by omega)];exact⟨by omega,rfl,⟨by rw[show(k+1).toNat=k.toNat+1 by omega];rfl,rfl,rfl,rfl,by omega,by omega⟩,by dsimp only;omega⟩
  ·rw[Ad (i'+1) (by omega),show k.toNat=8 by omega];refine⟨rfl,⟨?_,rfl,rfl,by omega,by omega⟩,by dsimp only;omega⟩;rw[show(i'+1).toNat=i'.toNat+1 by omega,List.take_add_one,gI hlt];show _=tv (Gn (~~~ c) (s.data.toList.take i'.toNat++[s.data.toList[i'.toNat]]));rw[MC];rfl
 ·rw[Tt,show i.toNat=s.data.toList.length by rw[Ao];omega,List.take_length]
theorem fB (c:BitVec 32):Int.tmod (tv c) 2=if c.getLsbD 0 then 1 else 0:=by
 have:=GI c;rw[Int.tmod_eq_emod_of_nonneg this.1,Uc];unfold tv;by_cases h:c.toNat % 2=1;·simp[h];omega
 ·simp[h];omega
theorem dE (b:UInt8)(k:Int)(h0:0<=k)(h8:k<8):Int.tmod (Int.fdiv (IntKind.u32.wrap (((UInt8.toNat b):Nat):Int)) (2 ^ (Min.min (Int.toNat (IntKind.u64.wrap k)) (IntKind.bits .u32)))) 2=if (Vv b).getLsbD k.toNat then 1 else 0:=by
 have hb:=b.toNat_lt;have e:IntKind.u64.wrap k=k:=by rw[IntKind.wrap_u64];omega
 have e2:Min.min (Int.toNat k) (IntKind.bits .u32)=k.toNat:=by show min k.toNat 32=k.toNat;omega
 rw[e,e2,KT _ (by omega),Int.fdiv_eq_ediv_of_nonneg _ (by exact Int.le_of_lt (Int.pow_pos (by decide)))];rw[Int.tmod_eq_emod_of_nonneg (Int.ediv_nonneg (by omega) (Int.le_of_lt (Int.pow_pos (by decide))))];have h3:(Vv b).getLsbD k.toNat=decide (b.toNat / 2 ^ k.toNat % 2=1):=by unfold Vv;rw[BitVec.getLsbD_ofNat,Nat.testBit_eq_decide_div_mod_eq];simp;omega
 rw[h3];have h4:((b.toNat:Int) / 2 ^ k.toNat % 2)=((b.toNat / 2 ^ k.toNat % 2:Nat):Int):=by push_cast;rfl
 rw[h4];by_cases h:b.toNat / 2 ^ k.toNat % 2=1;·simp[h]
 ·have:b.toNat / 2 ^ k.toNat % 2=0:=by omega
  simp[this]
theorem cQ (c:BitVec 32):IntKind.u32.wrap (Int.tdiv (tv c) 2)=tv (c >>> 1):=by have:=GI c;rw[Int.tdiv_eq_ediv_of_nonneg this.1,KT _ (by omega),<-Uk,Int.fdiv_eq_ediv_of_nonneg _ (by decide)]
theorem UK (r B:BitVec 32)(k:Nat)(c:BitVec 32)(h:r ^^^ (B >>> k)=it k c):
  ((r >>> 1) ^^^ (if r.getLsbD 0≠B.getLsbD k then MO else 0#32)) ^^^ (B >>> (k+1))=it (k+1) c:=by
 show _=T1 (it k c)
 rw[<-h]
 unfold T1
 have e1:(r ^^^ (B >>> k)) >>> 1=(r >>> 1) ^^^ (B >>> (k+1)):=by rw[BitVec.ushiftRight_xor_distrib,BitVec.shiftRight_add]
 have e2:(r ^^^ (B >>> k)).getLsbD 0=(r.getLsbD 0 != B.getLsbD k):=by rw[BitVec.getLsbD_xor,BitVec.getLsbD_ushiftRight];simp
 rw[e1,e2]
 have e3:(if r.getLsbD 0≠B.getLsbD k then MO else 0#32)=(if (r.getLsbD 0 != B.getLsbD k)=true then MO else 0#32):=by cases r.getLsbD 0<;>cases B.getLsbD k<;>rfl
 rw[e3,BitVec.xor_assoc,BitVec.xor_assoc]
 congr 1
 exact BitVec.xor_comm _ _
theorem Wi (b:UInt8):Vv b >>> 8=0#32:=by apply BitVec.eq_of_toNat_eq;have:=b.toNat_lt;rw[BitVec.toNat_ushiftRight,Nat.shiftRight_eq_div_pow];unfold Vv;rw[BitVec.toNat_ofNat,Nat.mod_eq_of_lt (by omega)];show b.toNat / 256=0;omega
theorem AHe (c:BitVec 32)(s:bA)(hs:(s.size:Int)<=9223372036854775807):Runs Fs 193 [.n (.int .u32 (tv c)),aS s] [] (.n (.int .u32 (tv (~~~ (Gn (~~~ c) s.data.toList))))) []:=by
 refine An (c:=c193) rfl rfl ?_;rewrite[vS,(vY _ _ _).down];refine⟨λt x i=>t=s/\x=tv (Gn (~~~ c) (s.data.toList.take i.toNat))/\0<=i/\i<=s.size,λt x i=>(s.size-i).toNat,⟨rfl,rfl,by rw[Tq];rfl,by omega,by omega⟩,?_⟩;rintro t x i ⟨rfl,rfl,h0,h1⟩ j;refine Ab (λh=>?_) (λh=>?_)
 ·have hlt:i.toNat<t.data.toList.length:=by rw[Ao];omega
  refine⟨λt' y i' k=>t'=t/\i'=i/\0<=k/\k<=8/\∃r:BitVec 32,y=tv r/\r ^^^ (Vv t.data.toList[i.toNat] >>> k.toNat)=it k.toNat (Gn (~~~ c) (t.data.toList.take i.toNat) ^^^ Vv t.data.toList[i.toNat]),λt' y i' k=>(8-k).toNat,⟨rfl,rfl,rfl,by omega,by omega,_,rfl,rfl⟩,?_⟩;rintro t' y i' k ⟨rfl,rfl,k0,k1,r,rfl,hr⟩ j';refine Ab (λhk=>?_) (λhk=>?_)
  ·have hnext:=UK r _ k.toNat _ hr;rw[fB,cQ,PT (r >>> 1) MO 2197175160 rfl,Ad (k+1) (by omega)];have e8:(k+1).toNat=k.toNat+1:=by omega
   refine⟨h0,_,gI hlt,by rw[IntKind.wrap_u64];omega,by decide,by decide,by decide,?_⟩;rw[dE _ k k0 hk];refine Aa (λhd=>?_) (λhd=>?_);·refine⟨rfl,⟨rfl,rfl,by omega,by omega,_,rfl,?_⟩,by dsimp only;omega⟩;rw[e8,<-hnext,if_pos];intro he;rw[he]at hd;simp at hd
   ·refine⟨rfl,⟨rfl,rfl,by omega,by omega,_,rfl,?_⟩,by dsimp only;omega⟩;rw[e8,<-hnext,if_neg,BitVec.xor_zero];intro he;apply he;revert hd;cases r.getLsbD 0<;>cases(Vv t'.data.toList[i'.toNat]).getLsbD k.toNat<;>simp
  ·rw[Ad (i'+1) (by omega)];rw[show k.toNat=8 by omega,Wi,BitVec.xor_zero]at hr;refine⟨rfl,⟨rfl,?_,by omega,by omega⟩,by dsimp only;omega⟩;rw[show(i'+1).toNat=i'.toNat+1 by omega,List.take_add_one,gI hlt];show _=tv (Gn (~~~ c) (t'.data.toList.take i'.toNat++[t'.data.toList[i'.toNat]]));rw[MC,hr];rfl
 ·rw[Tq,show i.toNat=t.data.toList.length by rw[Ao];omega,List.take_length]
def LX (s:bA):BitVec 32 := ~~~ (Gn (~~~ 0#32) s.data.toList)
theorem AHm (s:bA)(hs:(s.size:Int)<=9223372036854775807):Runs Fs 168 [aS s] [] (.n (.int .u32 (tv (LX s)))) []:=by refine An (c:=c168) rfl rfl ?_;rw[wG];exact⟨_,AHe 0#32 s hs,rfl⟩
theorem YH (s:bA)(hs:(s.size:Int)<=9223372036854775807):Runs Fs 127 [aL [.str s]] [] (.n (.int .u32 (tv (LX s)))) []:=by
 refine An (c:=c127) rfl rfl ?_;rewrite[ABB,(zU _ _).down];refine⟨λx l n i=>(i=0/\x=tv 0#32\/i=1/\x=tv (LX s))/\l=[.str s]/\n=1,λx l n i=>(n-i).toNat,⟨rfl,.inl ⟨rfl,rfl⟩,rfl,rfl⟩,?_⟩;rintro x l n i ⟨⟨rfl,rfl⟩|⟨rfl,rfl⟩,rfl,rfl⟩ j;·exact Ab (λh=>⟨rfl,by decide,_,rfl,s,rfl,_,ACQ 0#32 s hs,rfl,⟨.inr ⟨rfl,rfl⟩,rfl,rfl⟩,by show((1:Int)-w6 (0+1)).toNat<((1:Int)-0).toNat;decide⟩) (λh=>absurd (by decide) h)
 ·exact Ab (λh=>absurd h (by decide)) (λh=>rfl)
def YE (n:Int):List Mir.D:=[.int .u8 (n % 256),.int .u8 (n / 256 % 256),.int .u8 (n / 65536 % 256),.int .u8 (n / 16777216 % 256)]
def CP (s:bA):bA:=MQ [s,Cy (YE (tv (LX s)))]
theorem Ge (s:bA):(CP s).size=s.size+4:=by simp only[CP,FH,Ef,BR,YE];simp
theorem p82 (s:bA)(hs:s.size<=140737488300000):Runs Fs 82 [aS s] [] (aS (CP s)) []:=by
 refine An (c:=c82) rfl rfl ?_;rw[AEd];have hb:=GI (LX s);have e:[Mir.D.int .u8 (IntKind.u8.wrap (tv (LX s))),Mir.D.int .u8 (IntKind.u8.wrap (Int.fdiv (tv (LX s)) (2 ^ (Min.min (Int.toNat 8) (IntKind.bits .u32))))),Mir.D.int .u8 (IntKind.u8.wrap (Int.fdiv (tv (LX s)) (2 ^ (Min.min (Int.toNat 16) (IntKind.bits .u32))))),Mir.D.int .u8 (IntKind.u8.wrap (Int.fdiv (tv (LX s)) (2 ^ (Min.min (Int.toNat 24) (IntKind.bits .u32)))))]=YE (tv (LX s)):=by rw[show(2:Int) ^ (Min.min (Int.toNat 8) (IntKind.bits .u32))=256 from rfl,show(2:Int) ^ (Min.min (Int.toNat 16) (IntKind.bits .u32))=65536 from rfl,show(2:Int) ^ (Min.min (Int.toNat 24) (IntKind.bits .u32))=16777216 from rfl];simp only[Kw,Int.fdiv_eq_ediv_of_nonneg _ (show(0:Int)<=256 by decide),Int.fdiv_eq_ediv_of_nonneg _ (show(0:Int)<=65536 by decide),Int.fdiv_eq_ediv_of_nonneg _ (show(0:Int)<=16777216 by decide)];rfl
 refine⟨rfl,tv (LX s),YH s (by omega),by decide,by decide,by decide,rfl,.inl rfl,?_,rfl,CP s,?_,rfl⟩;·rw[e];rfl
 ·rw[e];exact mA [s,Cy (YE (tv (LX s)))] (by simp) (by simp only[Ef,BR,YE];simp;omega)
theorem AEg (s:bA)(hs:s.size<=140737488300000):Runs Fs 131 [.n (.str s)] [] (.n (.str (CP s))) []:=by
 refine An (c:=c131) rfl rfl ?_;rw[vB];have hb:=GI (LX s);have e:[Mir.D.int .u8 (IntKind.u8.wrap (Int.tmod (tv (LX s)) 256)),Mir.D.int .u8 (IntKind.u8.wrap (Int.tmod (IntKind.u32.wrap (Int.tdiv (tv (LX s)) 256)) 256)),Mir.D.int .u8 (IntKind.u8.wrap (Int.tmod (IntKind.u32.wrap (Int.tdiv (tv (LX s)) 65536)) 256)),Mir.D.int .u8 (IntKind.u8.wrap (IntKind.u32.wrap (Int.tdiv (tv (LX s)) 16777216)))]=YE (tv (LX s)):=by
  have g:∀m:Int,0<m->IntKind.u32.wrap (Int.tdiv (tv (LX s)) m)=tv (LX s) / m:=λm hm=>by rw[Int.tdiv_eq_ediv_of_nonneg hb.1,KT];exact⟨Int.ediv_nonneg hb.1 (by omega),Int.lt_of_le_of_lt (Int.ediv_le_self _ hb.1) hb.2⟩
  have g0:∀m:Int,0<m->0<=tv (LX s) / m:=λm hm=>Int.ediv_nonneg hb.1 (by omega);rw[g 256 (by decide),g 65536 (by decide),g 16777216 (by decide),Int.tmod_eq_emod_of_nonneg hb.1,Int.tmod_eq_emod_of_nonneg (g0 256 (by decide)),Int.tmod_eq_emod_of_nonneg (g0 65536 (by decide))];simp only[Kw,YE,Int.emod_emod]
 refine⟨_,AHm s (by omega),by decide,by decide,by decide,by decide,by decide,by decide,rfl,.inl rfl,by rw[e];rfl,?_,?_⟩<;>rw[e];·show((s.size+(Cy (YE (tv (LX s)))).size:Nat):Int)<=_;rw[BR];simp only[YE,List.length_cons,List.length_nil];omega
 ·congr 2
def pg (k g:Int)(b:bA):AV := .agg [aI k,aI g,aS b]
def pgOK (k g:Int)(b:bA):Prop:=1<=k/\k<=5/\0<=g/\g<=1099511627776/\(b.size:Int)<=4000
instance (k g:Int) (b:bA):Decidable (pgOK k g b):=by unfold pgOK;infer_instance
theorem N0 (k g:Int)(b:bA):Ae (decide (k>=1)) (Ae (decide (k<=5)) (Ae (decide (g>=0)) (Ae (decide (g<=1099511627776)) (AV.n (Mir.D.bool (decide ((((ByteArray.size b):Nat):Int)<=4000)))=AV.n (Mir.D.bool (decide (pgOK k g b)))) (AV.n (Mir.D.bool false)=AV.n (Mir.D.bool (decide (pgOK k g b))))) (AV.n (Mir.D.bool false)=AV.n (Mir.D.bool (decide (pgOK k g b))))) (AV.n (Mir.D.bool false)=AV.n (Mir.D.bool (decide (pgOK k g b))))) (AV.n (Mir.D.bool false)=AV.n (Mir.D.bool (decide (pgOK k g b)))):=by
 have no:¬pgOK k g b->AV.n (Mir.D.bool false)=AV.n (Mir.D.bool (decide (pgOK k g b))):=λh=>by rw[decide_eq_false h]
 refine Ab (λh1=>Ab (λh2=>Ab (λh3=>Ab (λh4=>?_) (λh=>no ?_)) (λh=>no ?_)) (λh=>no ?_)) (λh=>no ?_)
 ·have:(((b.size:Nat):Int)<=4000) ↔ pgOK k g b:=⟨λh=>⟨h1,h2,h3,h4,h⟩,λh=>h.2.2.2.2⟩
  exact congrArg (λz=>AV.n (Mir.D.bool z)) (decide_eq_decide.2 this)
 all_goals
   unfold pgOK
   omega
theorem p78 (k g:Int)(b:bA):Runs Fs 78 [pg k g b] [] (aB (decide (pgOK k g b))) []:=by refine An (c:=c78) rfl rfl ?_;unfold pg;rewrite[AEi,(AET _ _ _ _).down];exact N0 k g b
theorem ADi (k g:Int)(b:bA):Runs Fs 140 [pg k g b] [] (aB (decide (pgOK k g b))) []:=by refine An (c:=c140) rfl rfl ?_;unfold pg;rewrite[ACi,(wD _ _ _ _).down];exact N0 k g b
def Ec (k g:Int)(b:bA):bA:=MQ [Cy (be k 1),Cy (be g 6),Dl b]
def C6 (k g:Int)(b:bA):bA:=TrimS (CP (Ec k g b))
theorem Du (k g:Int)(b:bA):(Ec k g b).size=9+b.size:=by simp only[Ec,FH,Ef,BR,Eo,DQ];omega
def L5 (k g:Int)(b:bA):AV:=if pgOK k g b then .tup [aS (C6 k g b),aI 0] else .tup [aS (ByteArray.mk (List.toArray [])),aI 1]
theorem p36 (k g:Int)(b:bA):Runs Fs 36 [pg k g b] [] (L5 k g b) []:=by
 refine An (c:=c36) rfl rfl ?_;unfold pg;rewrite[AGQ,(AHf _ _ _ _).down];refine⟨_,p78 k g b,?_⟩;by_cases h:pgOK k g b
 ·have h':=h;obtain⟨h1,h2,h3,h4,h5⟩:=h';rw[decide_eq_true h];have hb:¬((b.size:Int) > 65535):=by omega
  refine Aa (λh=>by cases h) (λ_=>⟨_,_,DV k 1 (by omega) (by omega) (by omega) (by show k<256;omega),_,_,DV g 6 (by omega) (by omega) (by omega) (by show g<281474976710656;omega),Dl b,0,by simpa only[NS,if_neg hb] using p80 b,rfl,Ec k g b,?_,CP (Ec k g b),p82 _ (by rw[Du];omega),C6 k g b,sE _ (by rw[Ge,Du];omega),by unfold L5;rw[if_pos h]⟩);exact mA [Cy (be k 1),Cy (be g 6),Dl b] (by simp) (by simp only[Ef,BR,Eo,DQ];omega)
 ·rw[decide_eq_false h];exact Aa (λ_=>by unfold L5;rw[if_neg h]) (λh=>by cases h)
theorem DS (x:bA):x.toList=x.data.toList:=ByteArray.toList_eq x
theorem DJ (x y:bA):(x.toList==y.toList)=decide (x=y):=by
 rw[DS,DS];by_cases h:x=y;·subst h;simp
 ·rw[decide_eq_false h];refine beq_eq_false_iff_ne.2 λe=>h (AQ e)
theorem GQ {x y:bA}{A B:Prop}(h1:x≠y->A)(h2:x=y->B):Ae (Bool.not (x.toList==y.toList)) A B:=by
 rw[DJ];by_cases h:x=y;·rw[decide_eq_true h];exact h2 h
 ·rw[decide_eq_false h];exact h1 h
def Qr (x:bA):AV:=
 if (x.size:Int)<4 then .tup [aS (ByteArray.mk (List.toArray [])),aI 3]
 else if CP (x.extract 0 ((x.size:Int)-4).toNat)=x then .tup [aS (x.extract 0 ((x.size:Int)-4).toNat),aI 0]
 else .tup [aS (ByteArray.mk (List.toArray [])),aI 41]
theorem AEx (x:bA)(hs:x.size<=140737488300000):Runs Fs 169 [aS x] [] (Qr x) []:=by
 refine An (c:=c169) rfl rfl ?_;rw[vN];rw[(yX _ _).down];rw[Ad ((x.size:Int)-4) (by omega)];refine Ab (λh=>by unfold Qr;rw[if_pos (by omega)]) (λh=>⟨by omega,by omega,CP (x.extract 0 ((x.size:Int)-4).toNat),p82 _ (by rw[ByteArray.size_extract];omega),GQ (λhe=>?_) (λhe=>⟨by omega,by omega,?_⟩)⟩);·unfold Qr;rw[if_neg (by omega),if_neg he]
 ·unfold Qr;rw[if_neg (by omega),if_pos he]
def F (s:bA):bA:=Li s (4096-s.size)
theorem Xy {s:bA}(h:s.size<=4096):(F s).size=4096:=by unfold F;rw[UO];omega
def EN (e:Int):AV := .tup [pg 0 0 (ByteArray.mk (List.toArray [])),aI e]
def FI (f:bA):Nat:=(CN (Ar f 7 2)).toNat
def GetPR (s:bA):AV:=
 if 4096<s.size then EN 1
 else if 4000<FI (F s) then EN 4
 else if CP ((F s).extract 0 (9+FI (F s)))≠(F s).extract 0 (13+FI (F s)) then EN 41
 else if CN (Ar (F s) 0 1)<1\/5<CN (Ar (F s) 0 1) then EN 40
 else if ¬pgOK (CN (Ar (F s) 0 1)) (CN (Ar (F s) 1 6)) ((F s).extract 9 (9+FI (F s))) then EN 4
 else if TrimS ((F s).extract (13+FI (F s)) 4096)≠ByteArray.mk (List.toArray []) then EN 4
 else .tup [pg (CN (Ar (F s) 0 1)) (CN (Ar (F s) 1 6)) ((F s).extract 9 (9+FI (F s))),aI 0]
theorem XK (f:bA):((FI f:Nat):Int)=CN (Ar f 7 2):=by have:=(Fp (Ar f 7 2)).1;unfold FI;omega
theorem WL (f:bA):FI f<=65535:=by
 have h:=Fp (Ar f 7 2);have hl:=FQ f 7 2;have:(256:Int) ^ (Ar f 7 2).length<=256 ^ 2:=by
  have h2:(Ar f 7 2).length=0\/(Ar f 7 2).length=1\/(Ar f 7 2).length=2:=by simp only[show Int.toNat 2=2 from rfl]at hl;omega
  rcases h2 with e|e|e<;>rw[e]<;>decide
 have e2:(256:Int) ^ 2=65536:=rfl;rw[e2]at this;unfold FI;omega
theorem Nk (f:bA)(n:Nat)(at_ k:Int)(h0:0<=at_)(hk:0<=k)(h:at_+k<=n):Ar (f.extract 0 n) at_ k=Ar f at_ k:=by unfold Ar;rw[Dr,List.drop_zero,List.drop_take,List.take_take];congr 1;omega
theorem T4 (f:bA)(a b n:Nat)(h:b<=n):(f.extract 0 n).extract a b=f.extract a b:=by refine AQ ?_;rw[Dr,Dr,Dr,List.drop_zero,List.take_take,Nat.min_eq_left h]
theorem xS (s:bA)(hs:(s.size:Int)<=9223372036854775807):Runs Fs 135 [.n (.str s)] [] (GetPR s) []:=by
 refine An (c:=c135) rfl rfl ?_;rewrite[tH,(ABy _ _).down];have h16:=ABH s 4096 hs;by_cases h1:4096<s.size;·unfold L4 at h16;rw[if_neg (by omega),if_pos (by omega)]at h16;exact⟨_,_,h16,Aa (λ_=>by unfold GetPR;rw[if_pos h1];rfl) (λh=>by cases h)⟩
 ·rw[FD (by omega) (by omega)]at h16;have eF:Li s (4096-(s.size:Int)).toNat=F s:=by unfold F;congr 1;omega
  rw[eF]at h16;have hF:=Xy (s:=s) (by omega);have hn:=XK (F s);have hn2:=WL (F s);have hg:=SP (F s) (by omega) 7 2;rw[Bj (by omega) (by omega)]at hg;refine⟨_,_,h16,Aa (λh=>by cases h) (λ_=>⟨_,_,_,hg,?_⟩)⟩;rw[<-hn,Ad (9+(FI (F s):Int)) (by omega),Ad (9+(FI (F s):Int)+4) (by omega)];refine Ab (λh=>by unfold GetPR;rw[if_neg h1,if_pos (by omega)];rfl) (λh2=>?_);have e13:(9+(FI (F s):Int)+4).toNat=13+FI (F s):=by omega
  rw[e13,hF];have hx:((F s).extract 0 (13+FI (F s))).size=13+FI (F s):=by rw[ByteArray.size_extract,hF];omega
  have ho:=AEx ((F s).extract 0 (13+FI (F s))) (by omega);unfold Qr at ho;rw[if_neg (by omega),hx,show((13+FI (F s):Nat):Int)-4=((9+FI (F s):Nat):Int) by omega,Int.toNat_natCast,T4 _ _ _ _ (by omega)]at ho;refine⟨by omega,by omega,?_⟩;by_cases h3:CP ((F s).extract 0 (9+FI (F s)))=(F s).extract 0 (13+FI (F s))
  ·rw[if_pos h3]at ho;have hi:((F s).extract 0 (9+FI (F s))).size=9+FI (F s):=by rw[ByteArray.size_extract,hF];omega
   have hk:=SP ((F s).extract 0 (9+FI (F s))) (by omega) 0 1;rw[Bj (by omega) (by omega),Nk _ _ _ _ (by omega) (by omega) (by omega)]at hk;have hgg:=SP ((F s).extract 0 (9+FI (F s))) (by omega) 1 6;rw[Bj (by omega) (by omega),Nk _ _ _ _ (by omega) (by omega) (by omega)]at hgg;refine⟨_,_,ho,Aa (λh=>by cases h) (λ_=>⟨_,_,_,hk,_,_,_,hgg,by omega,by omega,?_⟩)⟩;rw[hi,show Int.toNat 9=9 from rfl,T4 _ _ _ _ (by omega)];have e40:CN (Ar (F s) 0 1)<1\/5<CN (Ar (F s) 0 1)->EN 40=GetPR s:=λh=>by unfold GetPR;rw[if_neg h1,if_neg (by omega),if_neg (by simpa using h3),if_pos h]
   refine Ab (λh=>e40 (.inl h)) (λh4=>Ab (λh=>e40 (.inr h)) (λh5=>⟨_,p78 _ _ _,?_⟩));by_cases h6:pgOK (CN (Ar (F s) 0 1)) (CN (Ar (F s) 1 6)) ((F s).extract 9 (9+FI (F s)))
   ·rw[decide_eq_true h6];refine Aa (λh=>by cases h) (λ_=>⟨by omega,by omega,_,sE _ (by rw[ByteArray.size_extract];omega),GQ (λh7=>?_) (λh7=>?_)⟩);·unfold GetPR;rw[if_neg h1,if_neg (by omega),if_neg (by simpa using h3),if_neg (by omega),if_neg (by simpa using h6),if_pos h7];rfl
    ·unfold GetPR;rw[if_neg h1,if_neg (by omega),if_neg (by simpa using h3),if_neg (by omega),if_neg (by simpa using h6),if_neg (by simpa using h7)];rfl
   ·rw[decide_eq_false h6];exact Aa (λ_=>by unfold GetPR;rw[if_neg h1,if_neg (by omega),if_neg (by simpa using h3),if_neg (by omega),if_pos h6];rfl) (λh=>by cases h)
  ·rw[if_neg h3]at ho;exact⟨_,_,ho,Aa (λ_=>by unfold GetPR;rw[if_neg h1,if_neg (by omega),if_pos h3];rfl) (λh=>by cases h)⟩
theorem U8 (f:bA)(a b:UInt8)(h7:f.data.toList[7]?=some a)(h8:f.data.toList[8]?=some b):CN (Ar f 7 2)=(a.toNat:Int)*256+b.toNat:=by
 obtain⟨h7',e7⟩:=List.getElem?_eq_some_iff.1 h7;obtain⟨h8',e8⟩:=List.getElem?_eq_some_iff.1 h8;have:Ar f 7 2=[a,b]:=by unfold Ar;rw[show Int.toNat 7=7 from rfl,show Int.toNat 2=2 from rfl,List.drop_eq_getElem_cons h7',List.take_succ_cons,List.drop_eq_getElem_cons h8',List.take_succ_cons,List.take_zero,e7,e8]
 rw[this];simp[CN]
theorem SV (f:bA)(a:UInt8)(h:f.data.toList[0]?=some a):CN (Ar f 0 1)=(a.toNat:Int):=by
 obtain⟨h',e⟩:=List.getElem?_eq_some_iff.1 h;have:Ar f 0 1=[a]:=by unfold Ar;rw[show Int.toNat 0=0 from rfl,show Int.toNat 1=1 from rfl,List.drop_eq_getElem_cons h',List.take_succ_cons,List.take_zero,e]
 rw[this];simp[CN]
theorem p95 (s:bA)(hs:(s.size:Int)<=9223372036854775807):Runs Fs 95 [.n (.str s)] [] (GetPR s) []:=by
 refine An (c:=c95) rfl rfl ?_;rewrite[AEn,(AHc _ _).down];refine Ab (λh=>by unfold GetPR;rw[if_pos (by omega)];rfl) (λh1'=>?_);have h1:¬4096<s.size:=by omega
 have h19:=AFl s 4096 hs;rw[FD (by omega) (by omega)]at h19;have eF:Li s (4096-(s.size:Int)).toNat=F s:=by unfold F;congr 1;omega
 rw[eF]at h19;have hF:=Xy (s:=s) (by omega);have hFl:(F s).data.toList.length=4096:=by rw[Ao,hF]
 have g7:(F s).data.toList[7]?=some (F s).data.toList[7]:=gI (by omega);have g8:(F s).data.toList[8]?=some (F s).data.toList[8]:=gI (by omega);have g0:(F s).data.toList[0]?=some (F s).data.toList[0]:=gI (by omega);refine⟨_,_,h19,by decide,_,g7,by decide,_,g8,?_⟩;have hn:=XK (F s);have hn2:=WL (F s);have e2:=U8 (F s) _ _ g7 g8;have e0:=SV (F s) _ g0;have b7:=((F s).data.toList[7]).toNat_lt;have b8:=((F s).data.toList[8]).toNat_lt;have b0:=((F s).data.toList[0]).toNat_lt;generalize (F s).data.toList[7]=a7 at *;generalize (F s).data.toList[8]=a8 at *;generalize (F s).data.toList[0]=a0 at *;have w1:w6 (w6 (256*w6 ((a7.toNat:Nat):Int))+w6 ((a8.toNat:Nat):Int))=(FI (F s):Int):=by rw[Ad ((a7.toNat:Nat):Int) (by omega),Ad ((a8.toNat:Nat):Int) (by omega),Ad (256*((a7.toNat:Nat):Int)) (by omega),Ad _ (by omega)];omega
 rw[w1,Ad (9+(FI (F s):Int)) (by omega),Ad (13+(FI (F s):Int)) (by omega)];refine Ab (λh=>by unfold GetPR;rw[if_neg h1,if_pos (by omega)];rfl) (λh2=>?_);rw[show(9+(FI (F s):Int)).toNat=9+FI (F s) by omega,show(13+(FI (F s):Int)).toNat=13+FI (F s) by omega,hF];refine⟨by omega,by omega,_,AEg _ (by rw[ByteArray.size_extract];omega),by omega,by omega,GQ (λh3=>by unfold GetPR;rw[if_neg h1,if_neg (by omega),if_pos h3];rfl) (λh3=>?_)⟩;have hg:=VA (F s) (by omega) 1 6;rw[Bj (by omega) (by omega)]at hg;refine⟨_,_,_,hg,by decide,_,g0,by omega,by omega,by decide,by omega,?_⟩;rw[Ad ((a0.toNat:Nat):Int) (by omega),<-e0,show Int.toNat 9=9 from rfl];have e40:CN (Ar (F s) 0 1)<1\/5<CN (Ar (F s) 0 1)->EN 40=GetPR s:=λh=>by unfold GetPR;rw[if_neg h1,if_neg (by omega),if_neg (by simpa using h3),if_pos h]
 refine Ab (λh=>e40 (.inl h)) (λh4=>Ab (λh=>e40 (.inr h)) (λh5=>⟨_,ADi _ _ _,?_⟩));by_cases h6:pgOK (CN (Ar (F s) 0 1)) (CN (Ar (F s) 1 6)) ((F s).extract 9 (9+FI (F s)))
 ·rw[decide_eq_true h6];refine Aa (λh=>by cases h) (λ_=>⟨by omega,by omega,_,ADr _ (by rw[ByteArray.size_extract];omega),GQ (λh7=>?_) (λh7=>?_)⟩);·unfold GetPR;rw[if_neg h1,if_neg (by omega),if_neg (by simpa using h3),if_neg (by omega),if_neg (by simpa using h6),if_pos h7];rfl
  ·unfold GetPR;rw[if_neg h1,if_neg (by omega),if_neg (by simpa using h3),if_neg (by omega),if_neg (by simpa using h6),if_neg (by simpa using h7)];rfl
 ·rw[decide_eq_false h6];exact Aa (λ_=>by unfold GetPR;rw[if_neg h1,if_neg (by omega),if_neg (by simpa using h3),if_neg (by omega),if_pos h6];rfl) (λh=>by cases h)
theorem A7 (s:bA):(∃e,e≠0/\GetPR s=EN e)\/∃k g b,GetPR s = .tup [pg k g b,aI 0]/\pgOK k g b/\s.size<=4096/\FI (F s)<=4000/\CP ((F s).extract 0 (9+FI (F s)))=(F s).extract 0 (13+FI (F s)) /\
   k=CN (Ar (F s) 0 1)/\g=CN (Ar (F s) 1 6)/\b=(F s).extract 9 (9+FI (F s))/\TrimS ((F s).extract (13+FI (F s)) 4096)=ByteArray.mk (List.toArray []):=by
 unfold GetPR
 split
 ·exact .inl ⟨1,by decide,rfl⟩
 split
 ·exact .inl ⟨4,by decide,rfl⟩
 split
 ·exact .inl ⟨41,by decide,rfl⟩
 split
 ·exact .inl ⟨40,by decide,rfl⟩
 split
 ·exact .inl ⟨4,by decide,rfl⟩
 split
 ·exact .inl ⟨4,by decide,rfl⟩
 ·rename_i h1 h2 h3 h4 h5 h6
  exact .inr ⟨_,_,_,rfl,by simpa using h5,by omega,by omega,by simpa using h3,rfl,rfl,rfl,by simpa using h6⟩
theorem SF (s:bA)(at_ k:Int):∃a b c,H8 s at_ k = .tup [aI a,aI b,aI c]:=by
 unfold H8;split;·exact⟨_,_,_,rfl⟩
 ·split<;>exact⟨_,_,_,rfl⟩
def Ie (s:bA)(at_:Int):AV:=
 if at_<0\/(s.size:Int)<at_ then .tup [aS (ByteArray.mk (List.toArray [])),aI 0,aI 1]
 else if (s.size:Int)-at_<2 then .tup [aS (ByteArray.mk (List.toArray [])),aI 0,aI 3]
 else if (s.size:Int)-(at_+2)<CN (Ar s at_ 2) then .tup [aS (ByteArray.mk (List.toArray [])),aI 0,aI 3]
 else .tup [aS (s.extract (at_+2).toNat (at_+2+CN (Ar s at_ 2)).toNat),aI (at_+2+CN (Ar s at_ 2)),aI 0]
theorem SA (s:bA)(at_:Int):∃a b c,Ie s at_ = .tup [aS a,aI b,aI c]:=by
 unfold Ie;split;·exact⟨_,_,_,rfl⟩
 ·split;·exact⟨_,_,_,rfl⟩
  ·split<;>exact⟨_,_,_,rfl⟩
theorem S5 (s:bA)(hs:(s.size:Int)<=9223372036854775807)(at_:Int)(G:Int->Int->Int->Prop)(hG:∀a b c,H8 s at_ 2 = .tup [aI a,aI b,aI c]->G a b c):
   ∃x0 x1 x2:Int,G x0 x1 x2 /\
    (Ae (x2 != 0)
     (Mir.AV.tup [(Mir.AV.n (Mir.D.str (ByteArray.mk (List.toArray [])))),(Mir.AV.n (Mir.D.int .i64 0)),(Mir.AV.n (Mir.D.int .i64 x2))]=Ie s at_)
     (Ae (decide ((w6 ((((ByteArray.size s):Nat):Int)-x1))<x0))
      (Mir.AV.tup [(Mir.AV.n (Mir.D.str (ByteArray.mk (List.toArray [])))),(Mir.AV.n (Mir.D.int .i64 0)),(Mir.AV.n (Mir.D.int .i64 3))]=Ie s at_)
      (((0:Int)<=(w6 (x1+x0))) /\
       ((((w6 (x1+x0)):Int)<=(((ByteArray.size s):Nat):Int)) /\
        (((0:Int)<=x1) /\
         (((x1:Int)<=(((Int.toNat (w6 (x1+x0))):Nat):Int)) /\
          (Mir.AV.tup [(Mir.AV.n (Mir.D.str (ByteArray.extract s (Int.toNat x1) (Int.toNat (w6 (x1+x0)))))),(Mir.AV.n (Mir.D.int .i64 (w6 (x1+x0)))),(Mir.AV.n (Mir.D.int .i64 0))]=Ie s at_))))))):=by
 by_cases h:at_<0\/(s.size:Int)<at_
 ·refine⟨_,_,_,hG _ _ _ (IS (by omega)),Aa (λ_=>?_) (λh=>by cases h)⟩
  unfold Ie;rw[if_pos h]
 ·by_cases h2:(s.size:Int)-at_<2
  ·refine⟨_,_,_,hG _ _ _ (CA (by omega) h2),Aa (λ_=>?_) (λh=>by cases h)⟩
   unfold Ie;rw[if_neg h,if_pos h2]
  ·have hn:=R6 (l:=Ar s at_ 2) (by have:=FQ s at_ 2;omega)
   refine⟨_,_,_,hG _ _ _ (Bj (by omega) h2),Aa (λh=>by cases h) (λ_=>?_)⟩
   rw[Ad _ (by omega)]
   refine Ab (λh3=>?_) (λh3=>?_)
   ·unfold Ie;rw[if_neg h,if_neg h2,if_pos h3]
   ·rw[Ad _ (by omega)]
    refine⟨by omega,by omega,by omega,by omega,?_⟩
    unfold Ie;rw[if_neg h,if_neg h2,if_neg h3]
theorem AF1 (s:bA)(hs:(s.size:Int)<=9223372036854775807)(at_:Int):Runs Fs 245 [aS s,aI at_] [] (Ie s at_) []:=by refine An (c:=c245) rfl rfl ?_;rewrite[zL,(uK _ _ _).down];exact S5 s hs at_ _ λa b c h=>h▸(SP s hs at_ 2)
theorem oX (s:bA)(hs:(s.size:Int)<=9223372036854775807)(at_:Int):Runs Fs 184 [aS s,aI at_] [] (Ie s at_) []:=by refine An (c:=c184) rfl rfl ?_;rewrite[sZ,(xR _ _ _).down];exact S5 s hs at_ _ λa b c h=>h▸(VA s hs at_ 2)
theorem ZK (s a c:bA)(hs:(s.size:Int)<=65535):Ie (MQ [a,Dl s,c]) a.size = .tup [.n (.str s),.n (.int .i64 (a.size+2+s.size)),.n (.int .i64 0)]:=by
 have hz:((MQ [a,Dl s,c]).size:Int)=a.size+2+s.size+c.size:=by rw[Nf,DQ];omega
 have hnum:CN (Ar (MQ [a,Dl s,c]) a.size 2)=s.size:=by rw[UM _ _ _ _ (by rw[DQ];omega),DX,List.take_append_of_le_length (by rw[Ap];decide),List.take_of_length_le (by rw[Ap];decide),Eh];omega
 unfold Ie;rw[if_neg (by omega),if_neg (by omega),hnum,if_neg (by omega)];congr 3;congr 2;refine AQ ?_;rw[Dr,Yk,DX];have e1:((a.size:Int)+2+s.size).toNat=a.data.toList.length+(2+s.data.toList.length):=by simp only[Ao];omega
 have e2:((a.size:Int)+2).toNat=a.data.toList.length+2:=by simp only[Ao];omega
 have hb:=Ap s.size 2;rw[e1,e2,<-List.drop_drop,List.take_length_add_append,List.drop_left,List.take_append_of_le_length (by simp[hb]),List.take_of_length_le (by simp[hb])];generalize CT s.size 2=l at hb;rw[<-hb,List.drop_left]
theorem CH {f:bA}{A B C:List UInt8}{at_ k:Int}(h:f.data.toList=A++(B++C))(ha:A.length=at_.toNat)(hb:B.length=k.toNat):Ar f at_ k=B:=by unfold Ar;rw[h,<-ha,List.drop_left,<-hb,List.take_left]
theorem Uo {f:bA}{t:bA}{C:List UInt8}{n:Nat}(h:f.data.toList=t.data.toList++C)(hn:n=t.size):f.extract 0 n=t:=by refine AQ ?_;rw[Dr,h,hn,<-Ao,List.take_left,List.drop_zero]
theorem dF {f:bA}{A C:List UInt8}{b:bA}{i j:Nat}(h:f.data.toList=A++(b.data.toList++C))(hi:i=A.length)(hj:j=A.length+b.size):f.extract i j=b:=by refine AQ ?_;rw[Dr,h,hi,hj,<-Ao,List.take_length_add_append,List.take_left,List.drop_left]
theorem Rz (k g:Int)(b:bA):(Ec k g b).data.toList=CT k 1++(CT g 6++(CT b.size 2++b.data.toList)):=by unfold Ec;rw[Yk,Dv,Dv,Ew,Ew,DX]
theorem RW (t:bA):∃c:List UInt8,c.length=4/\(CP t).data.toList=t.data.toList++c:=by refine⟨(YE (tv (LX t))).map Mir.byteOf,by simp[YE],?_⟩;unfold CP;rw[G4];simp[Dv]
theorem O3 {s:bA}:(F s).data.toList=s.data.toList++List.replicate (4096-s.size) 0:=by unfold F;rw[Dw]
theorem iF {s t:bA}(hs:s.size<=4096)(ht:t.size<=4096)(h:TrimS s=TrimS t):F s=F t:=by
 have e:tz s.data.toList=tz t.data.toList:=by rw[<-Bp,<-Bp,h]
 refine AQ ?_;rw[O3,O3];obtain⟨m,h1,_⟩:=FE _ s.data.toList rfl;obtain⟨n,h2,_⟩:=FE _ t.data.toList rfl;have l1:=congrArg List.length h1;have l2:=congrArg List.length h2;rw[List.length_append,List.length_replicate,Ao]at l1 l2;rw[h1,h2,e,List.append_assoc,List.append_assoc,List.replicate_append_replicate,List.replicate_append_replicate];rw[e]at l1;congr 2;omega
theorem Nl (k g:Int)(b s:bA)(h:pgOK k g b)(hs:s.size<=4096)(ht:TrimS s=C6 k g b):GetPR s = .tup [pg k g b,aI 0]:=by
 obtain⟨k1,k5,g0,g1,hb⟩:=id h;have hT:(CP (Ec k g b)).size=13+b.size:=by rw[Ge,Du];omega
 have hF:F s=F (CP (Ec k g b)):=iF hs (by rw[hT];omega) (by rw[ht];rfl);obtain⟨c,hc,hS⟩:=RW (Ec k g b);have hd:(F s).data.toList=(CP (Ec k g b)).data.toList++List.replicate (4096-(13+b.size)) 0:=by rw[hF,O3,hT]
 have hd2:(F s).data.toList=CT k 1++(CT g 6++(CT b.size 2++(b.data.toList++(c++List.replicate (4096-(13+b.size)) 0)))):=by rw[hd,hS,Rz];simp only[List.append_assoc]
 have q0:Ar (F s) 0 1=CT k 1:=CH (A:=[]) hd2 rfl (Ap _ _);have q1:Ar (F s) 1 6=CT g 6:=CH (A:=CT k 1) hd2 (Ap _ _) (Ap _ _);have q7:Ar (F s) 7 2=CT b.size 2:=CH (A:=CT k 1++CT g 6) (B:=CT b.size 2) (by rw[hd2];simp only[List.append_assoc];rfl) (by simp[Ap]) (Ap _ _);have n0:CN (Ar (F s) 0 1)=k:=by rw[q0,Eh];show k % 256=k;omega
 have n1:CN (Ar (F s) 1 6)=g:=by rw[q1,Eh];show g % 281474976710656=g;omega
 have n7:FI (F s)=b.size:=by unfold FI;rw[q7,Eh];show((b.size:Int) % 65536).toNat=b.size;omega
 have x0:(F s).extract 0 (9+b.size)=Ec k g b:=Uo (C:=c++List.replicate (4096-(13+b.size)) 0) (by rw[hd,hS,List.append_assoc]) (by rw[Du]);have x1:(F s).extract 0 (13+b.size)=CP (Ec k g b):=Uo hd hT.symm;have x2:(F s).extract 9 (9+b.size)=b:=dF (A:=CT k 1++(CT g 6++CT b.size 2)) (C:=c++List.replicate (4096-(13+b.size)) 0) (by rw[hd2];simp only[List.append_assoc]) (by simp[Ap]) (by simp[Ap]);have x3:TrimS ((F s).extract (13+b.size) 4096)=ByteArray.mk (List.toArray []):=by refine AQ ?_;rw[Bp,Dr,hd,List.take_of_length_le (by rw[List.length_append,Ao,hT,List.length_replicate];omega),<-hT,<-Ao,List.drop_left];have:=IT [] (4096-(CP (Ec k g b)).data.toList.length);simpa[kG] using this
 unfold GetPR;rw[n7,n0,n1,x0,x1,x2,x3,if_neg (by omega),if_neg (by omega),if_neg (by simp),if_neg (by omega),if_neg (by simpa using h),if_neg (by simp)]
theorem Il (k g:Int)(b:bA)(h:pgOK k g b):(C6 k g b).size<=4013:=by have:=H5 (CP (Ec k g b));rw[Ge,Du]at this;have:=h.2.2.2.2;unfold C6;omega
theorem SX (k g:Int)(b:bA)(n:Nat):TrimS (Li (C6 k g b) n)=C6 k g b:=by refine AQ ?_;rw[Bp,Dw,IT,C6,Bp,Oo]
def sA:bA:=ByteArray.mk (List.toArray [])
theorem QA:∃e,e≠0/\GetPR sA=EN e:=by
 rcases A7 sA with h|⟨k,g,b,_,hok,_,_,_,hk,_⟩
 ·exact h
 ·exfalso;have:CN (Ar (F sA) 0 1)=0:=by
   have hd:(F sA).data.toList=[]++([0]++List.replicate 4095 0):=by rw[O3];show []++List.replicate 4096 0=_;rw[List.replicate_succ];rfl
   rw[CH (A:=[]) hd rfl rfl];rfl
  rw[this]at hk;have:=hok.1;omega
theorem AES (ks:List Int)(hl:ks.length<=9223372036854775807)(k:Int):∃i,Runs Fs 170 [aL (ks.map (Mir.D.int .i64)),aI k] [] (aI i) []/\(0<=i ↔ k∈ks):=by
 have hvc:Vc Fs c170.body (Af c170 [.o (.sl 1 (ks.map (Mir.D.int .i64))),.n (.int .i64 k)]) [] (Av c170 λr=>∃i,r = .n (.int .i64 i)/\(0<=i ↔ k∈ks)):=by
  rewrite[ACe,(wL _ _ _).down];refine⟨λl v n i=>l=ks.map (Mir.D.int .i64)/\v=k/\n=ks.length/\0<=i/\i<=ks.length/\k∉ks.take i.toNat,λl v n i=>(n-i).toNat,⟨rfl,rfl,rfl,by simp,by omega,by omega,by simp⟩,?_⟩;rintro l v n i ⟨rfl,rfl,rfl,h0,h1,hno⟩ j;refine Ab (λh=>?_) (λh=>?_)
  ·have hlt:i.toNat<ks.length:=by omega
   refine⟨rfl,h0,.int .i64 ks[i.toNat],by rw[List.getElem?_map,gI hlt];rfl,_,rfl,Aa (λhe=>?_) (λhe=>?_)⟩
   ·have:v=ks[i.toNat]:=by simpa using he
    exact⟨i,rfl,λ_=>by rw[this];exact List.getElem_mem hlt,λ_=>h0⟩
   ·have:v≠ks[i.toNat]:=by simpa using he
    rw[Ad (i+1) (by omega)];refine⟨rfl,⟨rfl,rfl,rfl,by omega,by omega,?_⟩,by dsimp only;omega⟩;rw[show(i+1).toNat=i.toNat+1 by omega,List.take_add_one,gI hlt];intro hm;rcases List.mem_append.1 hm with hm|hm;·exact hno hm
    ·exact this (by simpa using hm)
  ·refine⟨-1,rfl,λh=>by omega,λhm=>?_⟩;rw[show i.toNat=ks.length by omega,List.take_length]at hno;exact absurd hm hno
 obtain⟨r,hr,i,rfl,hi⟩:=F0 AB7 rfl hvc;exact⟨i,hr,hi⟩
theorem AC6 (ks:List Int)(hl:ks.length<=9223372036854775807)(k:Int):Runs Fs 136 [aL (ks.map (Mir.D.int .i64)),aI k] [] (aB (decide (k∈ks))) []:=by refine An (c:=c136) rfl rfl ?_;rewrite[xM,(ABV _ _ _).down];obtain⟨i,hr,hi⟩:=AES ks hl k;exact⟨_,hr,congrArg (λz=>AV.n (Mir.D.bool z)) (decide_eq_decide.2 hi)⟩
theorem KG (s:bA)(hs:(s.size:Int)<=9223372036854775807)(ks:List Int)(e:Int)(he:e≠0)(h:GetPR s=EN e):Runs Fs 90 [aS s,aL (ks.map (Mir.D.int .i64))] [] (EN e) []:=by refine An (c:=c90) rfl rfl ?_;rewrite[AAU,(sX _ _ _).down];have g:=xS s hs;rw[h]at g;exact⟨_,_,_,_,g,Aa (λ_=>rfl) (λh=>absurd (by simpa using h) he)⟩
theorem OO (s:bA)(hs:(s.size:Int)<=9223372036854775807)(ks:List Int)(hl:ks.length<=9223372036854775807)(k g:Int)(b:bA)(h:GetPR s = .tup [pg k g b,aI 0]):Runs Fs 90 [aS s,aL (ks.map (Mir.D.int .i64))] [] (if k∈ks then .tup [pg k g b,aI 0] else EN 40) []:=by
 refine An (c:=c90) rfl rfl ?_;rewrite[AAU,(sX _ _ _).down];have h21:=xS s hs;rw[h]at h21;refine⟨_,_,_,_,h21,Aa (λh=>by cases h) (λ_=>⟨_,AC6 ks hl k,?_⟩)⟩;by_cases hk:k∈ks;·rw[decide_eq_true hk,if_pos hk];exact Aa (λh=>by cases h) (λ_=>rfl)
 ·rw[decide_eq_false hk,if_neg hk];exact Aa (λ_=>rfl) (λh=>by cases h)
def empS:bA:=ByteArray.mk (List.toArray [])
def AFB (e:Int):AV := .tup [aS empS,aI e]
def g3:AV->Int×Int×Int
 | .tup [.n (.int _ a),.n (.int _ b),.n (.int _ c)]=>(a,b,c)
 | _=>(0,0,0)
def c3T:AV->bA×Int×Int
 | .tup [.n (.str a),.n (.int _ b),.n (.int _ c)]=>(a,b,c)
 | _=>(empS,0,0)
def gT (s:bA)(a k:Int):Int×Int×Int:=g3 (H8 s a k)
def cT (s:bA)(a:Int):bA×Int×Int:=c3T (Ie s a)
theorem Qb (s:bA)(a k:Int):H8 s a k = .tup [aI (gT s a k).1,aI (gT s a k).2.1,aI (gT s a k).2.2]:=by obtain⟨x,y,z,h⟩:=SF s a k;rw[gT,h];rfl
theorem Tl (s:bA)(a:Int):Ie s a = .tup [aS (cT s a).1,aI (cT s a).2.1,aI (cT s a).2.2]:=by obtain⟨x,y,z,h⟩:=SA s a;rw[cT,h];rfl
theorem Tv (s:bA)(a:Int):0<=(gT s a 1).1/\(gT s a 1).1<=255:=by
 by_cases h1:(1:Int)<1\/(6:Int)<1\/a<0\/(s.size:Int)<a;·rw[gT,IS h1];exact⟨by decide,by decide⟩
 ·by_cases h2:(s.size:Int)-a<1;·rw[gT,CA h1 h2];exact⟨by decide,by decide⟩
  ·rw[gT,Bj h1 h2];have h3:=Fp (Ar s a 1);have h4:=FQ s a 1;have h5:(256:Int) ^ (Ar s a 1).length<=256:=by
    have:(Ar s a 1).length=0\/(Ar s a 1).length=1:=by have:(1:Int).toNat=1:=rfl;omega
    rcases this with h|h<;>rw[h]<;>decide
   exact⟨h3.1,by show CN (Ar s a 1)<=255;omega⟩
def nx (s:bA)(n e:Int):Int×Int×Int:=if e≠0 then (0,n,e) else gT s n 1
def tx (s:bA)(n e:Int):bA×Int×Int:=if e≠0 then (empS,n,e) else cT s n
theorem dU (a b:Int):(a != b)=decide (a≠b):=by
 by_cases h:a=b;·subst h;simp
 ·simp[h]
def AG (l:List bA):List D:=l.map D.str
theorem Am (l:List bA):(AG l).length=l.length:=by simp[AG]
theorem AZ {l:List bA}{i:Nat}(h:i<l.length):(AG l)[i]?=some (D.str l[i]):=by simp[AG,h]
def fO (l:List bA):Prop:=(l.length:Int)<=9223372036854775807/\∀s∈l,(s.size:Int)<=9223372036854775807
theorem A3 {α:Type}{l:List α}{i:Nat}(h:i<l.length):l.take (i+1)=l.take i++[l[i]]:=by rw[List.take_add_one,gI h];rfl
theorem ES (l:List bA)(x:bA):AG l++[D.str x]=AG (l++[x]):=by simp[AG]
theorem kK (n:Int)(h:0<=n/\n<=18446744073709551615):IntKind.u64.wrap n=n:=by show n % 18446744073709551616=n;omega
end Go.Proofs.YtegndijbpiccgaaGreatDoor.M
