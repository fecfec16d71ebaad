import Derived.Test.YtjmpnbbeplgchabGreatDoorR6FunB
import Derived.Test.YtjmpnbbeplgchabGreatDoorMirS
namespace Go.Proofs.YtjmpnbbeplgchabGreatDoor.M
set_option linter.unusedVariables false
set_option linter.unusedSimpArgs false
open Go Go.Mir
theorem Ac (n:Int)(h : -9223372036854775808<=n/\n<=9223372036854775807):wI n=n:=by unfold wI;rw[IntKind.wrap_i64];omega
theorem KS (n:Int):IntKind.u8.wrap n=n % 256:=by rw[IntKind.wrap_u8]
theorem WQ {i:Nat}(h:i<=6):(256:Int) ^ i<=281474976710656/\(0:Int)<256 ^ i:=by
 have:i=0\/i=1\/i=2\/i=3\/i=4\/i=5\/i=6:=by omega
 rcases this with rfl|rfl|rfl|rfl|rfl|rfl|rfl<;>decide
def be (n:Int)(s:Nat):List Mir.D:=(List.range s).map λj => .int .u8 (n / 256 ^ (s-1-j) % 256)
def Gi (n:Int)(s i:Nat):List Mir.D:=(List.range s).map λj => .int .u8 (if s-1-j<i then n / 256 ^ (s-1-j) % 256 else 0)
def BZ (l:List Mir.D):bA:=ByteArray.mk (List.toArray (List.map Mir.byteOf l))
def Bad:AV := .tup [aS (ByteArray.mk (List.toArray [])),aI 1]
def lU (n:Int)(s:Nat):AV := .tup [aS (BZ (be n s)),aI 0]
theorem Mf (n:Int)(i:Int)(h0:0<=i)(h6:i<=6):Int.fdiv n (2 ^ (Min.min (Int.toNat (wI (8*i))) (IntKind.bits .i64)))=n / 256 ^ i.toNat:=by
 have:i=0\/i=1\/i=2\/i=3\/i=4\/i=5\/i=6:=by omega
 rcases this with rfl|rfl|rfl|rfl|rfl|rfl|rfl<;>rw[Int.fdiv_eq_ediv_of_nonneg _ (by decide)]<;>rfl
theorem qO (f:Nat->Int)(s:Nat):List.all ((List.range s).map λj=>Mir.D.int .u8 (f j)) Mir.D.isU8=true:=by simp[Mir.D.isU8]
theorem XI (n s:Int)(h:s<1\/6<s\/n<0\/(1<=s/\s<=6/\256 ^ s.toNat<=n)):Runs Fs 104 [aI n,aI s] [] Bad []:=by
 refine Ag (c:=c104) rfl rfl ?_;rewrite[iY,(iO _ _ _).down];refine Ab (λh1=>rfl) (λh1=>Ab (λh2=>rfl) (λh2=>Ab (λh3=>rfl) (λh3=>?_)));have hs:256 ^ s.toNat<=n:=by omega
 refine⟨by rw[Ac _ (by omega)];omega,?_⟩;rw[Mf n s (by omega) (by omega)];refine Aa (λh4=>rfl) (λh4=>?_);exfalso;have hp:=WQ (i:=s.toNat) (by omega);have:1<=n / 256 ^ s.toNat:=(Int.le_ediv_iff_mul_le hp.2).2 (by omega);simp only[bne_eq_false_iff_eq]at h4;omega
theorem Cr (n s:Int)(h1:1<=s)(h6:s<=6)(hn:0<=n)(hlt:n<256 ^ s.toNat):Runs Fs 104 [aI n,aI s] [] (lU n s.toNat) []:=by
 refine Ag (c:=c104) rfl rfl ?_;rewrite[iY,(iO _ _ _).down];refine Ab (λh1=>by omega) (λ_=>Ab (λh2=>by omega) (λ_=>Ab (λh3=>by omega) (λ_=>?_)));refine⟨by rw[Ac _ (by omega)];omega,?_⟩;rw[Mf n s (by omega) (by omega)];have hz:n / 256 ^ s.toNat=0:=Int.ediv_eq_zero_of_lt hn hlt;rw[hz];refine⟨by omega,by omega,rfl,?_⟩;refine⟨λa b v len i row=>a=n/\b=s/\v=row.1/\len=s/\0<=i/\i<=s/\row.2=Gi n s.toNat i.toNat,λa b v len i row=>(s-i).toNat,⟨rfl,rfl,rfl,rfl,?_,by omega,by omega,?_⟩,?_⟩;·simp;omega
 ·refine List.ext_getElem (by simp[Gi]) λi h1 h2=>?_;simp[Gi]
 rintro a b v len i ⟨rv,re⟩ ⟨rfl,rfl,rfl,rfl,hi0,hi1,hre⟩ j;simp only at hre;subst hre;refine Ab (λh=>?_) (λh=>?_)
 ·have e1:wI (wI (len-1)-i)=len-1-i:=by rw[Ac (len-1) (by omega),Ac _ (by omega)]
  rw[Mf _ i hi0 (by omega),e1,Ac (i+1) (by omega),Ac (8*i) (by omega),KS];have hlen:(Gi a len.toNat i.toNat).length=len.toNat:=by simp[Gi]
  refine⟨by omega,⟨rfl,rfl⟩,by omega,by rw[hlen];omega,⟨⟨⟨rfl,rfl⟩,rfl⟩,rfl⟩,by rw[hlen];omega,rfl,⟨rfl,rfl,rfl,rfl,by omega,by omega,?_⟩,by dsimp only;omega⟩;dsimp only;refine List.ext_getElem (by simp[Gi]) λk h1 h2=>?_;have hk:k<len.toNat:=by simpa[Gi] using h2
  rw[List.getElem_set];simp only[Gi,List.getElem_map,List.getElem_range];by_cases hk2:(len-1-i).toNat=k;·rw[if_pos hk2,if_pos (by omega),show len.toNat-1-k=i.toNat by omega]
  ·rw[if_neg hk2];by_cases hk3:len.toNat-1-k<i.toNat;·rw[if_pos hk3,if_pos (by omega)]
   ·rw[if_neg hk3,if_neg (by omega)]
 ·have:i=len:=by omega
  subst this;refine⟨rfl,.inl rfl,qO _ _,?_⟩;have:Gi a i.toNat i.toNat=be a i.toNat:=by
   refine List.ext_getElem (by simp[Gi,be]) λk h1 h2=>?_;have hk:k<i.toNat:=by simpa[be] using h2
   simp only[Gi,be,List.getElem_map,List.getElem_range];rw[if_pos (by omega)]
  dsimp only;rw[this];rfl
def Cj (n:Int):Nat->List UInt8
 | 0=>[]
 | s+1=>UInt8.ofNat (n / 256 ^ s % 256).toNat::Cj n s
theorem gD (n:Int)(s:Nat):be n (s+1) = .int .u8 (n / 256 ^ s % 256)::be n s:=by
 unfold be;rw[List.range_succ_eq_map,List.map_cons,List.map_map];refine congr (congrArg _ ?_) ?_;·simp
 ·refine List.map_congr_left λj hj=>?_;simp only[List.mem_range]at hj;simp only[Function.comp];rw[show s+1-1-(j+1)=s-1-j by omega]
theorem DO (n:Int):∀s,List.map Mir.byteOf (be n s)=Cj n s
 | 0=>rfl
 | s+1=>by rw[gD,List.map_cons,DO n s];rfl
theorem dQ (n P:Int)(hP:0<P):n % (P*256)=n / P % 256*P+n % P:=by
 have h1:=Int.mul_ediv_add_emod n P;have h2:=Int.mul_ediv_add_emod (n / P) 256;have h3:=Int.emod_nonneg n (b:=P) (by omega);have h4:=Int.emod_lt_of_pos n hP;have h5:=Int.emod_nonneg (n / P) (b:=256) (by omega);have h6:=Int.emod_lt_of_pos (n / P) (b:=256) (by omega);have e:n=(n / P % 256*P+n % P)+(P*256)*(n / P / 256):=by
  have:P*(n / P)=P*(256*(n / P / 256)+n / P % 256):=by rw[h2]
  rw[Int.mul_add,<-Int.mul_assoc]at this;have c:n / P % 256*P=P*(n / P % 256):=Int.mul_comm _ _;omega
 have lo:0<=n / P % 256*P:=Int.mul_nonneg h5 (by omega);have hi:n / P % 256*P<=255*P:=Int.mul_le_mul_of_nonneg_right (by omega) (by omega);rw[show n % (P*256)=((n / P % 256*P+n % P)+(P*256)*(n / P / 256)) % (P*256) by rw[<-e],Int.add_mul_emod_self_left];exact Int.emod_eq_of_lt (by omega) (by omega)
def Ct (l:List UInt8):Int:=l.foldl (λn b=>n*256+(b.toNat:Int)) 0
theorem Rc (l:List UInt8)(b:UInt8):Ct (l++[b])=Ct l*256+(b.toNat:Int):=by simp[Ct]
theorem Pt:∀(l:List UInt8) (a:Int),0<=a->a*256 ^ l.length<=l.foldl (λn b=>n*256+(b.toNat:Int)) a/\l.foldl (λn b=>n*256+(b.toNat:Int)) a<(a+1)*256 ^ l.length
 | [],a,h=>by simp;omega
 | b::r,a,h=>by
  have hb:=b.toNat_lt;obtain⟨h1,h2⟩:=Pt r (a*256+(b.toNat:Int)) (by omega);have hP:(0:Int)<256 ^ r.length:=Int.pow_pos (by omega);simp only[List.foldl_cons,List.length_cons,Int.pow_succ];generalize (256:Int) ^ r.length=P at *;have e1:a*(P*256)<=(a*256+(b.toNat:Int))*P:=by rw[Int.mul_comm P 256,<-Int.mul_assoc];exact Int.mul_le_mul_of_nonneg_right (by omega) (by omega)
  have e2:(a*256+(b.toNat:Int)+1)*P<=(a+1)*(P*256):=by rw[Int.mul_comm P 256,<-Int.mul_assoc];exact Int.mul_le_mul_of_nonneg_right (by omega) (by omega)
  omega
theorem Eg (l:List UInt8):0<=Ct l/\Ct l<256 ^ l.length:=by have:=Pt l 0 (by omega);unfold Ct;omega
theorem RW {l:List UInt8}(h:l.length<=6):0<=Ct l/\Ct l<281474976710656:=by have:=Eg l;have:=WQ h;omega
def An (s:bA)(at_ k:Int):List UInt8:=(s.data.toList.drop at_.toNat).take k.toNat
def HZ (s:bA)(at_ k:Int):AV:=
 if k<1\/6<k\/at_<0\/(s.size:Int)<at_ then .tup [aI 0,aI 0,aI 1]
 else if (s.size:Int)-at_<k then .tup [aI 0,aI 0,aI 3]
 else .tup [aI (Ct (An s at_ k)),aI (at_+k),aI 0]
theorem Gt {s:bA}{at_ k:Int}(h:k<1\/6<k\/at_<0\/(s.size:Int)<at_):HZ s at_ k = .tup [aI 0,aI 0,aI 1]:=if_pos h
theorem Cb {s:bA}{at_ k:Int}(h:¬(k<1\/6<k\/at_<0\/(s.size:Int)<at_))(h2:(s.size:Int)-at_<k):HZ s at_ k = .tup [aI 0,aI 0,aI 3]:=by unfold HZ;rw[if_neg h,if_pos h2]
theorem A9 {s:bA}{at_ k:Int}(h:¬(k<1\/6<k\/at_<0\/(s.size:Int)<at_))(h2:¬(s.size:Int)-at_<k):HZ s at_ k = .tup [aI (Ct (An s at_ k)),aI (at_+k),aI 0]:=by unfold HZ;rw[if_neg h,if_neg h2]
theorem Aj (s:bA):s.data.toList.length=s.size:=rfl
theorem K0 (s:bA)(at_ i:Int)(h0:0<=at_)(hi:0<=i)(h:at_+i<s.size):∃b,s.data.toList[(at_+i).toNat]?=some b/\An s at_ (i+1)=An s at_ i++[b]:=by
 have hl:=Aj s;have hlt:(at_+i).toNat<s.data.toList.length:=by omega
 refine⟨s.data.toList[(at_+i).toNat],gI hlt,?_⟩;unfold An;rw[show(i+1).toNat=i.toNat+1 by omega,List.take_add_one];congr 1;rw[List.getElem?_drop,show at_.toNat+i.toNat=(at_+i).toNat by omega,gI hlt];rfl
theorem Ft (s:bA)(at_ k:Int):(An s at_ k).length<=k.toNat:=by unfold An;rw[List.length_take];omega
theorem VZ (s:bA)(hs:(s.size:Int)<=9223372036854775807)(at_ k:Int):Runs Fs 186 [aS s,aI at_,aI k] [] (HZ s at_ k) []:=by
 refine Ag (c:=c186) rfl rfl ?_;rewrite[wQ,(wS _ _ _ _).down];have b1:∀ {p:Prop},p->(p->k<1\/6<k\/at_<0\/(s.size:Int)<at_)->Mir.AV.tup [.n (.int .i64 0),.n (.int .i64 0),.n (.int .i64 1)]=HZ s at_ k:=λh g=>(Gt (g h)).symm;refine Ab (λh=>b1 h (by omega)) (λh1=>Ab (λh=>b1 h (by omega)) (λh2=>Ab (λh=>b1 h (by omega)) (λh3=>Ab (λh=>b1 h (by omega)) (λh4=>?_))));rw[Ac _ (by omega)];refine Ab (λh=>(Cb (by omega) h).symm) (λh5=>?_);rw[A9 (by omega) h5];refine⟨λt a n v i=>t=s/\a=at_/\n=k/\v=Ct (An s at_ i)/\0<=i/\i<=k,λt a n v i=>(k-i).toNat,⟨rfl,rfl,rfl,rfl,by simp[An,Ct],by omega,by omega⟩,?_⟩;rintro t a n v i ⟨rfl,rfl,rfl,rfl,hi0,hi1⟩ j;refine Ab (λh=>?_) (λh=>?_);·obtain⟨b,hb,hp⟩:=K0 t a i (by omega) hi0 (by omega);have hn:=RW (l:=An t a i) (by have:=Ft t a i;omega);have hb2:=b.toNat_lt;rw[Ac (a+i) (by omega),Ac (i+1) (by omega)];refine⟨by omega,b,hb,rfl,⟨rfl,rfl,rfl,?_,by omega,by omega⟩,by dsimp only;omega⟩;rw[hp,Rc,Ac (_*256) (by omega),Ac ((b.toNat:Int)) (by omega),Ac _ (by omega)]
 ·rw[Ac (a+n) (by omega),show i=n by omega]
theorem tO (a c:Int)(ha:0<=a)(ha2:a<281474976710656)(hc:0<=c)(hc2:c<256):
  wI ((BitVec.toNat (HOr.hOr (BitVec.ofInt (IntKind.bits .i64) (wI (a*(2 ^ (Min.min (Int.toNat 8) (IntKind.bits .i64)))))) (BitVec.ofInt (IntKind.bits .i64) (wI c))):Nat):Int)=a*256+c:=by
 have e:(2:Int) ^ (Min.min (Int.toNat 8) (IntKind.bits .i64))=256:=rfl
 rw[e,Ac (a*256) (by omega),Ac c (by omega)]
 have hb:IntKind.bits .i64=64:=rfl
 rw[hb]
 obtain⟨a,rfl⟩:=Int.eq_ofNat_of_zero_le ha
 obtain⟨c,rfl⟩:=Int.eq_ofNat_of_zero_le hc
 have h1:(BitVec.ofInt 64 ((a:Int)*256))=BitVec.ofNat 64 (2 ^ 8*a):=by rw[show((a:Int)*256)=((2 ^ 8*a:Nat):Int) by omega,BitVec.ofInt_natCast]
 have h2:(BitVec.ofInt 64 (c:Int))=BitVec.ofNat 64 c:=BitVec.ofInt_natCast _ _
 rw[h1,h2,BitVec.toNat_or,BitVec.toNat_ofNat,BitVec.toNat_ofNat,Nat.mod_eq_of_lt (by omega),Nat.mod_eq_of_lt (by omega),<-Nat.two_pow_add_eq_or_of_lt (by omega)]
 rw[Ac _ (by omega)]
 omega
theorem MI (s:bA)(at_ k:Int)(h0:0<=at_)(hk:0<=k)(h:at_+k<=s.size):bytesD (s.extract at_.toNat (at_+k).toNat)=(An s at_ k).map λb=>Mir.D.int .u8 (b.toNat:Int):=by unfold bytesD An;congr 1;simp[ByteArray.data_extract,Array.toList_extract,List.extract];rw[show(at_+k).toNat-at_.toNat=k.toNat by omega]
theorem gW (s:bA)(hs:(s.size:Int)<=9223372036854775807)(at_ k:Int):Runs Fs 40 [aS s,aI at_,aI k] [] (HZ s at_ k) []:=by
 refine Ag (c:=c40) rfl rfl ?_;rewrite[AJh,(AGE _ _ _ _).down];have b1:∀ {p:Prop},p->(p->k<1\/6<k\/at_<0\/(s.size:Int)<at_)->Mir.AV.tup [.n (.int .i64 0),.n (.int .i64 0),.n (.int .i64 1)]=HZ s at_ k:=λh g=>(Gt (g h)).symm;refine Ab (λh=>b1 h (by omega)) (λh1=>Ab (λh=>b1 h (by omega)) (λh2=>Ab (λh=>b1 h (by omega)) (λh3=>Ab (λh=>b1 h (by omega)) (λh4=>?_))));rw[Ac _ (by omega)];refine Ab (λh=>(Cb (by omega) h).symm) (λh5=>?_);rw[A9 (by omega) h5,Ac (at_+k) (by omega),MI s at_ k (by omega) (by omega) (by omega)];have hlen:(An s at_ k).length=k.toNat:=by unfold An;rw[List.length_take,List.length_drop,Aj];omega
 refine⟨by omega,by omega,by omega,by omega,?_⟩;refine⟨λa n v els len i=>a=at_/\n=k/\v=Ct (An s at_ i)/\els=((An s at_ k).map λb=>Mir.D.int .u8 (b.toNat:Int))/\len=k/\0<=i/\i<=k,λa n v els len i=>(k-i).toNat,⟨rfl,rfl,rfl,by simp[An,Ct],rfl,by rw[List.length_map,hlen];omega,by omega,by omega⟩,?_⟩;rintro a n v els len i ⟨rfl,rfl,rfl,rfl,rfl,hi0,hi1⟩ j;refine Ab (λh=>?_) (λh=>?_)
 ·obtain⟨b,hb,hp⟩:=K0 s a i (by omega) hi0 (by omega);have hn:=RW (l:=An s a i) (by have:=Ft s a i;omega);have hb2:=b.toNat_lt;have he:((An s a len).map λb=>Mir.D.int .u8 (b.toNat:Int))[i.toNat]?=some (.int .u8 (b.toNat:Int)):=by rw[List.getElem?_map];unfold An;rw[List.getElem?_take_of_lt (by omega),List.getElem?_drop,show a.toNat+i.toNat=(a+i).toNat by omega,hb];rfl
  rw[Ac (i+1) (by omega)];refine⟨rfl,hi0,_,he,(b.toNat:Int),rfl,by decide,rfl,⟨rfl,rfl,?_,rfl,rfl,by omega,by omega⟩,by dsimp only;omega⟩;rw[tO _ _ hn.1 hn.2 (by omega) (by omega),hp,Rc]
 ·rw[show i=len by omega,Ac (a+len) (by omega)]
theorem MT (xs:List bA)(h1:xs.length<=140737488355328)(h2:Da xs<=140737488355328):Runs Fs 108 [aL (xs.map Mir.D.str)] [] (aS (Mc xs)) []:=by refine Ag (c:=c108) rfl rfl ?_;rewrite[wB,(xV _ _).down];exact⟨_,Vz ACA xs h1 h2,rfl⟩
theorem Bo (l:List Mir.D):(BZ l).size=l.length:=by simp[BZ,ByteArray.size]
theorem C8 (n:Int)(s:Nat):(be n s).length=s:=by simp[be]
def BR (s:bA):bA:=Mc [BZ (be s.size 2),s]
def J4 (s:bA):AV:=if (s.size:Int) > 65535 then .tup [aS (ByteArray.mk (List.toArray [])),aI 2] else .tup [aS (BR s),aI 0]
theorem CE (s:bA):(BR s).size=2+s.size:=by simp only[BR,Ev,Da,Bo,C8];omega
theorem bQ (s:bA):Runs Fs 105 [aS s] [] (J4 s) []:=by
 refine Ag (c:=c105) rfl rfl ?_;rewrite[AAU,(ABA _ _).down];refine Ab (λh=>?_) (λh=>?_);·unfold J4;rw[if_pos h]
 ·refine⟨_,_,Cr s.size 2 (by omega) (by omega) (by omega) (by simp;omega),rfl,_,MT [BZ (be s.size 2),s] (by simp) (by simp only[Da,Bo,C8];omega),?_⟩;unfold J4;rw[if_neg h];rfl
theorem El (xs:List bA):(Mc xs).data.toList=(xs.map (·.data.toList)).flatten:=by simp[Mc]
theorem Jw:∀(l:List UInt8) (a:Int),l.foldl (λn b=>n*256+(b.toNat:Int)) a=a*256 ^ l.length+Ct l
 | [],a=>by simp[Ct]
 | b::r,a=>by have h1:=Jw r (a*256+(b.toNat:Int));have h2:=Jw r (0*256+(b.toNat:Int));simp only[List.foldl_cons,List.length_cons,Ct,Int.pow_succ]at h1 h2 |-;rw[h1,h2,Int.add_mul,Int.mul_assoc,Int.mul_comm 256 (256 ^ r.length)];simp only[Int.zero_mul,Int.zero_add,Int.add_assoc]
theorem LK (b:UInt8)(l:List UInt8):Ct (b::l)=(b.toNat:Int)*256 ^ l.length+Ct l:=by have:=Jw l (0*256+(b.toNat:Int));simp only[Ct,List.foldl_cons]at this |-;rw[this];simp
theorem Ap (n:Int):∀s,(Cj n s).length=s
 | 0=>rfl
 | s+1=>by simp[Cj,Ap n s]
theorem D9 (n:Int):∀s,Ct (Cj n s)=n % 256 ^ s
 | 0=>by simp[Cj,Ct]
 | s+1=>by have hp:(0:Int)<256 ^ s:=Int.pow_pos (by decide);have h0:0<=n / 256 ^ s % 256:=Int.emod_nonneg _ (by decide);have h1:n / 256 ^ s % 256<256:=Int.emod_lt_of_pos _ (by decide);rw[Cj,LK,D9 n s,Ap,Int.pow_succ,dQ n _ hp];congr 2;simp only[UInt8.toNat_ofNat'];omega
theorem C3 (l:List Mir.D):(BZ l).data.toList=l.map Mir.byteOf:=by simp[BZ]
theorem BY (s:bA)(a b:Nat):(s.extract a b).data.toList=(s.data.toList.take b).drop a:=by simp[ByteArray.data_extract,List.drop_take]
theorem CB (s:bA):(BR s).data.toList=Cj s.size 2++s.data.toList:=by simp only[BR,El,List.map_cons,List.map_nil,List.flatten_cons,List.flatten_nil,List.append_nil,C3,DO]
theorem ZI (a b c:bA):(Mc [a,b,c]).data.toList=a.data.toList++(b.data.toList++c.data.toList):=by rw[El];simp
theorem Vm (a b c:bA)(k:Int)(hk:k.toNat<=b.size):An (Mc [a,b,c]) a.size k=b.data.toList.take k.toNat:=by
 unfold An;rw[ZI];have e:(a.size:Int).toNat=a.data.toList.length:=by simp[Aj]
 rw[e,List.drop_left,List.take_append_of_le_length (by rw[Aj];exact hk)]
theorem NP (a b c:bA):(Mc [a,b,c]).size=a.size+b.size+c.size:=by simp only[Ev,Da];omega
theorem AE {a b:bA}(h:a.data.toList=b.data.toList):a=b:=by cases a;cases b;simp only[ByteArray.mk.injEq];exact Array.toList_inj.1 h
theorem TT {α:Type}[BEq α][ReflBEq α]{x:α}{A B:Prop}(h:A):Ae (x==x) A B:=by rw[beq_self_eq_true];exact h
def tz (l:List UInt8):List UInt8:=Lib.trimRightB l 0
theorem X9:tz []=[]:=rfl
theorem IA (l:List UInt8):tz (l++[0])=tz l:=by simp[tz,Lib.trimRightB]
theorem Kx (l:List UInt8)(b:UInt8)(h:b≠0):tz (l++[b])=l++[b]:=by simp[tz,Lib.trimRightB,h]
theorem Fx (l:List UInt8):∀n,tz (l++List.replicate n 0)=tz l
 | 0=>by simp
 | n+1=>by rw[List.replicate_succ',<-List.append_assoc,IA,Fx l n]
theorem SP (l:List UInt8):l=[]\/∃r b,l=r++[b]:=by
 rcases List.eq_nil_or_concat l with h|⟨r,b,h⟩
 ·exact .inl h
 ·exact .inr ⟨r,b,by simpa using h⟩
theorem Er:∀(k:Nat) (l:List UInt8),l.length=k->∃n,l=tz l++List.replicate n 0/\(tz l=[]\/∃r b,tz l=r++[b]/\b≠0)
 | 0,l,h=>by obtain rfl:l=[]:=List.eq_nil_of_length_eq_zero h;exact⟨0,rfl,.inl rfl⟩
 | k+1,l,h=>by
  rcases SP l with rfl|⟨r,b,rfl⟩
  ·cases h
  ·by_cases hb:b=0;·subst hb;obtain⟨n,h1,h2⟩:=Er k r (by simpa using h);rw[IA];exact⟨n+1,by rw[List.replicate_succ',<-List.append_assoc,<-h1],h2⟩
   ·rw[Kx r b hb];exact⟨0,by simp,.inr ⟨r,b,rfl,hb⟩⟩
theorem SZ (l:List UInt8):(tz l).length<=l.length:=by obtain⟨n,h,_⟩:=Er _ l rfl;have:=congrArg List.length h;rw[List.length_append,List.length_replicate]at this;omega
theorem OY (l:List UInt8):tz (tz l)=tz l:=by
 obtain⟨n,_,h|⟨r,b,h,hb⟩⟩:=Er _ l rfl;·rw[h];rfl
 ·rw[h,Kx r b hb]
def TrimS (s:bA):bA:=PA s 0
theorem AS (s:bA):(TrimS s).data.toList=tz s.data.toList:=by simp[TrimS,PA,tz]
theorem Dw (s:bA):(TrimS s).size<=s.size:=by have:=SZ s.data.toList;rw[<-AS,Aj,Aj]at this;exact this
theorem Vs (s:bA)(hs:(s.size:Int)<=9223372036854775807):Runs Fs 106 [aS s] [] (aS (TrimS s)) []:=by refine Ag (c:=c106) rfl rfl ?_;rewrite[vJ,(AB5 _ _).down];exact⟨_,UG ABS s 0 (by decide) (by omega),rfl⟩
theorem AIt (s:bA)(hs:(s.size:Int)<=9223372036854775807):Runs Fs 188 [.n (.str s)] [] (.n (.str (TrimS s))) []:=by
 refine Ag (c:=c188) rfl rfl ?_;rewrite[AB9,(ABH _ _).down];refine⟨λt n=>t=s/\0<=n/\n<=s.size/\tz (s.data.toList.take n.toNat)=tz s.data.toList,λt n=>n.toNat,⟨rfl,rfl,by omega,by omega,by rw[show((s.size:Nat):Int).toNat=s.data.toList.length by simp[Aj],List.take_length]⟩,?_⟩;rintro t n ⟨rfl,h0,h1,hz⟩ j;have done:tz (t.data.toList.take n.toNat)=t.data.toList.take n.toNat->0<=n/\(n<=t.size/\AV.n (Mir.D.str (t.extract 0 n.toNat))=AV.n (Mir.D.str (TrimS t))):=λh=>by refine⟨h0,h1,?_⟩;congr 2;refine AE ?_;rw[BY,AS,<-hz,h];rfl
 refine Ab (λh=>?_) (λh=>?_)
 ·rw[Ac (n-1) (by omega)];have hlt:(n-1).toNat<t.data.toList.length:=by rw[Aj];omega
  have hsp:t.data.toList.take n.toNat=t.data.toList.take (n-1).toNat++[t.data.toList[(n-1).toNat]]:=by rw[show n.toNat=(n-1).toNat+1 by omega,List.take_add_one,gI hlt];rfl
  refine⟨by omega,_,gI hlt,Aa (λhb=>?_) (λhb=>done ?_)⟩
  ·have hb0:t.data.toList[(n-1).toNat]=0:=by
    have:(t.data.toList[(n-1).toNat]).toNat=0:=by have:=beq_iff_eq.1 hb;omega
    exact UInt8.toNat_inj.1 this
   refine⟨rfl,⟨rfl,by omega,by omega,?_⟩,by dsimp only;omega⟩;rw[<-hz,hsp,hb0,IA]
  ·rw[hsp,Kx];intro h0;rw[h0]at hb;simp at hb
 ·refine done ?_;have:n.toNat=0:=by omega
  rw[this,List.take_zero];rfl
def KZ (s:bA)(n:Nat):bA:=⟨(s.data.toList++List.replicate n 0).toArray⟩
theorem DB (s:bA)(n:Nat):(KZ s n).data.toList=s.data.toList++List.replicate n 0:=by simp[KZ]
theorem U4 (s:bA)(n:Nat):(KZ s n).size=s.size+n:=by have:=congrArg List.length (DB s n);rw[Aj,List.length_append,List.length_replicate,Aj]at this;exact this
def K3 (s:bA)(k:Int):AV:=
 if k<0\/4096<k then .tup [aS (ByteArray.mk (List.toArray [])),aI 1]
 else if (s.size:Int) > k then .tup [aS (ByteArray.mk (List.toArray [])),aI 2]
 else .tup [aS (KZ s (k-s.size).toNat),aI 0]
theorem Fm {s:bA}{k:Int}(h0:(s.size:Int)<=k)(h1:k<=4096):K3 s k = .tup [aS (KZ s (k-s.size).toNat),aI 0]:=by unfold K3;rw[if_neg (by omega),if_neg (by omega)]
theorem N2:∀n,Lib.repeatL [(0:UInt8)] n=List.replicate n 0
 | 0=>rfl
 | n+1=>by rw[Lib.repeatL,N2 n,List.replicate_succ];rfl
theorem yK (s:bA)(k:Int)(hs:(s.size:Int)<=9223372036854775807):Runs Fs 152 [.n (.str s),.n (.int .i64 k)] [] (K3 s k) []:=by
 refine Ag (c:=c152) rfl rfl ?_;rewrite[ADA,(ABF _ _ _).down];refine Ab (λh=>by unfold K3;rw[if_pos (by omega)]) (λh1=>Ab (λh=>by unfold K3;rw[if_pos (by omega)]) (λh2=>Ab (λh=>by unfold K3;rw[if_neg (by omega),if_pos (by omega)]) (λh3=>?_)));rw[Ac _ (by omega)];have hz:(Sv (ByteArray.mk (List.toArray [0])) (k-s.size).toNat).data.toList=List.replicate (k-s.size).toNat 0:=by simp[Sv,N2]
 have hzs:(Sv (ByteArray.mk (List.toArray [0])) (k-s.size).toNat).size=(k-s.size).toNat:=by have:=congrArg List.length hz;rwa [Aj,List.length_replicate]at this
 refine⟨_,QO xB (ByteArray.mk (List.toArray [0])) (k-s.size) (by omega) (by omega) (by show 1*_<=_;omega),rfl,_,MT [s,Sv (ByteArray.mk (List.toArray [0])) (k-s.size).toNat] (by simp) (by simp only[Da,hzs];omega),?_⟩;rw[Fm (by omega) (by omega)];congr 3;congr 1;refine AE ?_;rw[El,DB];simp only[List.map_cons,List.map_nil,List.flatten_cons,List.flatten_nil,List.append_nil,hz]
theorem Xn (a b:bA):(a++b).data.toList=a.data.toList++b.data.toList:=by simp
theorem AEk (s:bA)(k:Int)(hs:(s.size:Int)<=9223372036854775807):Runs Fs 184 [.n (.str s),.n (.int .i64 k)] [] (K3 s k) []:=by
 refine Ag (c:=c184) rfl rfl ?_;rewrite[ACB,(xA _ _ _).down];refine Ab (λh=>by unfold K3;rw[if_pos (by omega)]) (λh1=>Ab (λh=>by unfold K3;rw[if_pos (by omega)]) (λh2=>Ab (λh=>by unfold K3;rw[if_neg (by omega),if_pos (by omega)]) (λh3=>?_)));rw[Ac _ (by omega)];have hz:∀n:Nat,(ByteArray.mk (List.toArray (List.map Mir.byteOf (List.replicate n (Mir.D.int .u8 0))))).data.toList=List.replicate n 0:=λn=>by simp[Mir.byteOf]
 have hzs:(ByteArray.mk (List.toArray (List.map Mir.byteOf (List.replicate (k-s.size).toNat (Mir.D.int .u8 0))))).size=(k-s.size).toNat:=by have:=congrArg List.length (hz (k-s.size).toNat);rwa [Aj,List.length_replicate]at this
 refine⟨by omega,by omega,rfl,.inl rfl,by simp[Mir.D.isU8],by rw[hzs];omega,?_⟩;rw[Fm (by omega) (by omega)];congr 3;congr 1;refine AE ?_;rw[Xn,DB,hz]
def MZ:BitVec 32:=2197175160#32
def To (c:BitVec 32):BitVec 32:=(c >>> 1) ^^^ (if c.getLsbD 0 then MZ else 0#32)
def it:Nat->BitVec 32->BitVec 32
 | 0,c=>c
 | k+1,c=>To (it k c)
def VK (b:UInt8):BitVec 32:=BitVec.ofNat 32 b.toNat
def TY (c:BitVec 32)(b:UInt8):BitVec 32:=it 8 (c ^^^ VK b)
def F4 (c:BitVec 32)(l:List UInt8):BitVec 32:=l.foldl TY c
def tv (c:BitVec 32):Int:=(c.toNat:Int)
theorem K8 (n:Int)(h:0<=n/\n<4294967296):IntKind.u32.wrap n=n:=by rw[IntKind.wrap_u32];omega
theorem GA (c:BitVec 32):0<=tv c/\tv c<4294967296:=by have:=c.isLt;unfold tv;omega
theorem I0 (c:BitVec 32):IntKind.u32.wrap (((c.toNat:Nat)):Int)=tv c:=K8 _ (GA c)
theorem My (c:BitVec 32):BitVec.ofInt (IntKind.bits .u32) (tv c)=c:=by show BitVec.ofInt 32 ((c.toNat:Nat):Int)=c;rw[BitVec.ofInt_natCast,BitVec.ofNat_toNat,BitVec.setWidth_eq]
theorem Ub (c:BitVec 32):c.getLsbD 0=decide (c.toNat % 2=1):=by rw[BitVec.getLsbD,Nat.testBit_eq_decide_div_mod_eq];simp
theorem fV (c:BitVec 32):c &&& 1#32=if c.getLsbD 0 then 1#32 else 0#32:=by
 apply BitVec.eq_of_toNat_eq;rw[BitVec.toNat_and,Ub];show c.toNat &&& 1=_;rw[Nat.and_one_is_mod];by_cases h:c.toNat % 2=1;·simp[h]
 ·have:c.toNat % 2=0:=by omega
  simp[this]
theorem TU (c:BitVec 32):Int.fdiv (tv c) 2=tv (c >>> 1):=by unfold tv;rw[Int.fdiv_eq_ediv_of_nonneg _ (by decide),BitVec.toNat_ushiftRight,Nat.shiftRight_eq_div_pow];omega
theorem bD (c:BitVec 32):IntKind.u32.wrap (0-tv c)=tv (-c):=by
 unfold tv;rw[IntKind.wrap_u32,BitVec.toNat_neg];have:=c.isLt;by_cases h:c.toNat=0;·rw[h];decide
 ·omega
theorem Y2 (c:BitVec 32):MZ &&& -(c &&& 1#32)=if c.getLsbD 0 then MZ else 0#32:=by
 rw[fV];cases c.getLsbD 0;·decide
 ·decide
theorem US (c:BitVec 32):
  IntKind.u32.wrap (((BitVec.toNat (HXor.hXor (BitVec.ofInt (IntKind.bits .u32) (Int.fdiv (tv c) (2 ^ (Min.min (Int.toNat 1) (IntKind.bits .u32))))) (BitVec.ofInt (IntKind.bits .u32) (IntKind.u32.wrap (((BitVec.toNat (HAnd.hAnd (BitVec.ofInt (IntKind.bits .u32) 2197175160) (BitVec.ofInt (IntKind.bits .u32) (IntKind.u32.wrap (0-(IntKind.u32.wrap (((BitVec.toNat (HAnd.hAnd (BitVec.ofInt (IntKind.bits .u32) (tv c)) (BitVec.ofInt (IntKind.bits .u32) 1))):Nat):Int))))))):Nat):Int))))):Nat):Int)=tv (To c):=by
 have e2:(2:Int) ^ (Min.min (Int.toNat 1) (IntKind.bits .u32))=2:=rfl
 have e1:BitVec.ofInt (IntKind.bits .u32) 1=1#32:=rfl
 have ep:BitVec.ofInt (IntKind.bits .u32) 2197175160=MZ:=rfl
 rw[e2,e1,ep,TU,My,My]
 have h1:IntKind.u32.wrap (((BitVec.toNat (c &&& 1#32)):Nat):Int)=tv (c &&& 1#32):=I0 _
 have h2:(HAnd.hAnd c 1#32:BitVec 32)=c &&& 1#32:=rfl
 erw[h1,bD,My]
 have h3:IntKind.u32.wrap (((BitVec.toNat (MZ &&& -(c &&& 1#32))):Nat):Int)=tv (MZ &&& -(c &&& 1#32)):=I0 _
 erw[h3,My,Y2]
 exact I0 _
theorem PV (c d:BitVec 32)(y:Int)(hy:y=tv d):IntKind.u32.wrap (((BitVec.toNat (HXor.hXor (BitVec.ofInt (IntKind.bits .u32) (tv c)) (BitVec.ofInt (IntKind.bits .u32) y))):Nat):Int)=tv (c ^^^ d):=by subst hy;rw[My,My];exact I0 _
theorem Uc (c:BitVec 32):IntKind.u32.wrap (((BitVec.toNat (HXor.hXor (BitVec.ofInt (IntKind.bits .u32) (IntKind.max .u32)) (BitVec.ofInt (IntKind.bits .u32) (tv c)))):Nat):Int)=tv (~~~ c):=by
 rw[My];have e:BitVec.ofInt (IntKind.bits .u32) (IntKind.max .u32)=BitVec.allOnes 32:=rfl;rw[e];have:(HXor.hXor (BitVec.allOnes 32) c:BitVec 32) = ~~~ c:=by rw[BitVec.allOnes_xor]
 erw[this];exact I0 _
theorem Tj (c:BitVec 32):IntKind.u32.wrap (4294967295-tv c)=tv (~~~ c):=by unfold tv;have:=c.isLt;rw[BitVec.toNat_not,IntKind.wrap_u32];omega
theorem zY (b:UInt8):IntKind.u32.wrap ((b.toNat:Nat):Int)=tv (VK b):=by have:=b.toNat_lt;unfold tv VK;rw[K8 _ (by omega),BitVec.toNat_ofNat,Nat.mod_eq_of_lt (by omega)]
theorem L7 (c:BitVec 32)(l:List UInt8)(b:UInt8):F4 c (l++[b])=TY (F4 c l) b:=by simp[F4]
theorem AEG (c:BitVec 32)(s:bA)(hs:(s.size:Int)<=9223372036854775807):Runs Fs 179 [.n (.int .u32 (tv c)),aS s] [] (.n (.int .u32 (tv (~~~ (F4 (~~~ c) s.data.toList))))) []:=by
 refine Ag (c:=c179) rfl rfl ?_;rewrite[AC6,(AAu _ _ _).down];have hl:(bytesD s).length=s.size:=by simp[bytesD,Aj]
 refine⟨λx l n i=>x=tv (F4 (~~~ c) (s.data.toList.take i.toNat))/\l=bytesD s/\n=s.size/\0<=i/\i<=s.size,λx l n i=>(n-i).toNat,⟨rfl,by rw[Uc];rfl,rfl,by rw[hl],by omega,by omega⟩,?_⟩;rintro x l n i ⟨rfl,rfl,rfl,h0,h1⟩ j;refine Ab (λh=>?_) (λh=>?_)
 ·have hlt:i.toNat<s.data.toList.length:=by rw[Aj];omega
  have hg:(bytesD s)[i.toNat]?=some (.int .u8 ((s.data.toList[i.toNat]).toNat:Int)):=by unfold bytesD;rw[List.getElem?_map,gI hlt];rfl
  refine⟨rfl,h0,_,hg,_,rfl,?_⟩;rw[PV _ (VK s.data.toList[i.toNat]) _ (zY _)];refine⟨λy l' n' i' k=>y=tv (it k.toNat (F4 (~~~ c) (s.data.toList.take i.toNat) ^^^ VK s.data.toList[i.toNat]))/\l'=bytesD s/\n'=s.size/\i'=i/\0<=k/\k<=8,λy l' n' i' k=>(8-k).toNat,⟨rfl,rfl,rfl,rfl,rfl,by omega,by omega⟩,?_⟩;rintro y l' n' i' k ⟨rfl,rfl,rfl,rfl,k0,k1⟩ j';refine Ab (λhk=>?_) (λhk=>?_);·rw[US,Ac (k+1) (by omega)];exact⟨by omega,rfl,⟨by rw[show(k+1).toNat=k.toNat+1 by omega];rfl,rfl,rfl,rfl,by omega,by omega⟩,by dsimp only;omega⟩
  ·rw[Ac (i'+1) (by omega),show k.toNat=8 by omega];refine⟨rfl,⟨?_,rfl,rfl,by omega,by omega⟩,by dsimp only;omega⟩;rw[show(i'+1).toNat=i'.toNat+1 by omega,List.take_add_one,gI hlt];show _=tv (F4 (~~~ c) (s.data.toList.take i'.toNat++[s.data.toList[i'.toNat]]));rw[L7];rfl
 ·rw[Uc,show i.toNat=s.data.toList.length by rw[Aj];omega,List.take_length]
theorem dF (c:BitVec 32):Int.tmod (tv c) 2=if c.getLsbD 0 then 1 else 0:=by
 have:=GA c;rw[Int.tmod_eq_emod_of_nonneg this.1,Ub];unfold tv;by_cases h:c.toNat % 2=1;·simp[h];omega
 ·simp[h];omega
theorem aA (b:UInt8)(k:Int)(h0:0<=k)(h8:k<8):Int.tmod (Int.fdiv (IntKind.u32.wrap (((UInt8.toNat b):Nat):Int)) (2 ^ (Min.min (Int.toNat (IntKind.u64.wrap k)) (IntKind.bits .u32)))) 2=if (VK b).getLsbD k.toNat then 1 else 0:=by
 have hb:=b.toNat_lt;have e:IntKind.u64.wrap k=k:=by rw[IntKind.wrap_u64];omega
 have e2:Min.min (Int.toNat k) (IntKind.bits .u32)=k.toNat:=by show min k.toNat 32=k.toNat;omega
 rw[e,e2,K8 _ (by omega),Int.fdiv_eq_ediv_of_nonneg _ (by exact Int.le_of_lt (Int.pow_pos (by decide)))];rw[Int.tmod_eq_emod_of_nonneg (Int.ediv_nonneg (by omega) (Int.le_of_lt (Int.pow_pos (by decide))))];have h3:(VK b).getLsbD k.toNat=decide (b.toNat / 2 ^ k.toNat % 2=1):=by unfold VK;rw[BitVec.getLsbD_ofNat,Nat.testBit_eq_decide_div_mod_eq];simp;omega
 rw[h3];have h4:((b.toNat:Int) / 2 ^ k.toNat % 2)=((b.toNat / 2 ^ k.toNat % 2:Nat):Int):=by push_cast;rfl
 rw[h4];by_cases h:b.toNat / 2 ^ k.toNat % 2=1;·simp[h]
 ·have:b.toNat / 2 ^ k.toNat % 2=0:=by omega
  simp[this]
theorem fE (c:BitVec 32):IntKind.u32.wrap (Int.tdiv (tv c) 2)=tv (c >>> 1):=by have:=GA c;rw[Int.tdiv_eq_ediv_of_nonneg this.1,K8 _ (by omega),<-TU,Int.fdiv_eq_ediv_of_nonneg _ (by decide)]
theorem Wo (r B:BitVec 32)(k:Nat)(c:BitVec 32)(h:r ^^^ (B >>> k)=it k c):
  ((r >>> 1) ^^^ (if r.getLsbD 0≠B.getLsbD k then MZ else 0#32)) ^^^ (B >>> (k+1))=it (k+1) c:=by
 show _=To (it k c)
 rw[<-h]
 unfold To
 have e1:(r ^^^ (B >>> k)) >>> 1=(r >>> 1) ^^^ (B >>> (k+1)):=by rw[BitVec.ushiftRight_xor_distrib,BitVec.shiftRight_add]
 have e2:(r ^^^ (B >>> k)).getLsbD 0=(r.getLsbD 0 != B.getLsbD k):=by rw[BitVec.getLsbD_xor,BitVec.getLsbD_ushiftRight];simp
 rw[e1,e2]
 have e3:(if r.getLsbD 0≠B.getLsbD k then MZ else 0#32)=(if (r.getLsbD 0 != B.getLsbD k)=true then MZ else 0#32):=by cases r.getLsbD 0<;>cases B.getLsbD k<;>rfl
 rw[e3,BitVec.xor_assoc,BitVec.xor_assoc]
 congr 1
 exact BitVec.xor_comm _ _
theorem WN (b:UInt8):VK b >>> 8=0#32:=by apply BitVec.eq_of_toNat_eq;have:=b.toNat_lt;rw[BitVec.toNat_ushiftRight,Nat.shiftRight_eq_div_pow];unfold VK;rw[BitVec.toNat_ofNat,Nat.mod_eq_of_lt (by omega)];show b.toNat / 256=0;omega
theorem AIc (c:BitVec 32)(s:bA)(hs:(s.size:Int)<=9223372036854775807):Runs Fs 225 [.n (.int .u32 (tv c)),aS s] [] (.n (.int .u32 (tv (~~~ (F4 (~~~ c) s.data.toList))))) []:=by
 refine Ag (c:=c225) rfl rfl ?_;rewrite[wU,(vA _ _ _).down];refine⟨λt x i=>t=s/\x=tv (F4 (~~~ c) (s.data.toList.take i.toNat))/\0<=i/\i<=s.size,λt x i=>(s.size-i).toNat,⟨rfl,rfl,by rw[Tj];rfl,by omega,by omega⟩,?_⟩;rintro t x i ⟨rfl,rfl,h0,h1⟩ j;refine Ab (λh=>?_) (λh=>?_)
 ·have hlt:i.toNat<t.data.toList.length:=by rw[Aj];omega
  refine⟨λt' y i' k=>t'=t/\i'=i/\0<=k/\k<=8/\∃r:BitVec 32,y=tv r/\r ^^^ (VK t.data.toList[i.toNat] >>> k.toNat)=it k.toNat (F4 (~~~ c) (t.data.toList.take i.toNat) ^^^ VK t.data.toList[i.toNat]),λt' y i' k=>(8-k).toNat,⟨rfl,rfl,rfl,by omega,by omega,_,rfl,rfl⟩,?_⟩;rintro t' y i' k ⟨rfl,rfl,k0,k1,r,rfl,hr⟩ j';refine Ab (λhk=>?_) (λhk=>?_)
  ·have hnext:=Wo r _ k.toNat _ hr;rw[dF,fE,PV (r >>> 1) MZ 2197175160 rfl,Ac (k+1) (by omega)];have e8:(k+1).toNat=k.toNat+1:=by omega
   refine⟨h0,_,gI hlt,by rw[IntKind.wrap_u64];omega,by decide,by decide,by decide,?_⟩;rw[aA _ k k0 hk];refine Aa (λhd=>?_) (λhd=>?_);·refine⟨rfl,⟨rfl,rfl,by omega,by omega,_,rfl,?_⟩,by dsimp only;omega⟩;rw[e8,<-hnext,if_pos];intro he;rw[he]at hd;simp at hd
   ·refine⟨rfl,⟨rfl,rfl,by omega,by omega,_,rfl,?_⟩,by dsimp only;omega⟩;rw[e8,<-hnext,if_neg,BitVec.xor_zero];intro he;apply he;revert hd;cases r.getLsbD 0<;>cases(VK t'.data.toList[i'.toNat]).getLsbD k.toNat<;>simp
  ·rw[Ac (i'+1) (by omega)];rw[show k.toNat=8 by omega,WN,BitVec.xor_zero]at hr;refine⟨rfl,⟨rfl,?_,by omega,by omega⟩,by dsimp only;omega⟩;rw[show(i'+1).toNat=i'.toNat+1 by omega,List.take_add_one,gI hlt];show _=tv (F4 (~~~ c) (t'.data.toList.take i'.toNat++[t'.data.toList[i'.toNat]]));rw[L7,hr];rfl
 ·rw[Tj,show i.toNat=t.data.toList.length by rw[Aj];omega,List.take_length]
def Ld (s:bA):BitVec 32 := ~~~ (F4 (~~~ 0#32) s.data.toList)
theorem AH3 (s:bA)(hs:(s.size:Int)<=9223372036854775807):Runs Fs 210 [aS s] [] (.n (.int .u32 (tv (Ld s)))) []:=by refine Ag (c:=c210) rfl rfl ?_;rw[ACU];exact⟨_,AIc 0#32 s hs,rfl⟩
theorem YH (s:bA)(hs:(s.size:Int)<=9223372036854775807):Runs Fs 144 [aL [.str s]] [] (.n (.int .u32 (tv (Ld s)))) []:=by
 refine Ag (c:=c144) rfl rfl ?_;rewrite[ABq,(ACl _ _).down];refine⟨λx l n i=>(i=0/\x=tv 0#32\/i=1/\x=tv (Ld s))/\l=[.str s]/\n=1,λx l n i=>(n-i).toNat,⟨rfl,.inl ⟨rfl,rfl⟩,rfl,rfl⟩,?_⟩;rintro x l n i ⟨⟨rfl,rfl⟩|⟨rfl,rfl⟩,rfl,rfl⟩ j;·exact Ab (λh=>⟨rfl,by decide,_,rfl,s,rfl,_,AEG 0#32 s hs,rfl,⟨.inr ⟨rfl,rfl⟩,rfl,rfl⟩,by show((1:Int)-wI (0+1)).toNat<((1:Int)-0).toNat;decide⟩) (λh=>absurd (by decide) h)
 ·exact Ab (λh=>absurd h (by decide)) (λh=>rfl)
def Xk (n:Int):List Mir.D:=[.int .u8 (n % 256),.int .u8 (n / 256 % 256),.int .u8 (n / 65536 % 256),.int .u8 (n / 16777216 % 256)]
def Cz (s:bA):bA:=Mc [s,BZ (Xk (tv (Ld s)))]
theorem EC (s:bA):(Cz s).size=s.size+4:=by simp only[Cz,Ev,Da,Bo,Xk];simp
theorem AAs (s:bA)(hs:s.size<=140737488300000):Runs Fs 107 [aS s] [] (aS (Cz s)) []:=by
 refine Ag (c:=c107) rfl rfl ?_;rw[ABE];have hb:=GA (Ld s);have e:[Mir.D.int .u8 (IntKind.u8.wrap (tv (Ld s))),Mir.D.int .u8 (IntKind.u8.wrap (Int.fdiv (tv (Ld s)) (2 ^ (Min.min (Int.toNat 8) (IntKind.bits .u32))))),Mir.D.int .u8 (IntKind.u8.wrap (Int.fdiv (tv (Ld s)) (2 ^ (Min.min (Int.toNat 16) (IntKind.bits .u32))))),Mir.D.int .u8 (IntKind.u8.wrap (Int.fdiv (tv (Ld s)) (2 ^ (Min.min (Int.toNat 24) (IntKind.bits .u32)))))]=Xk (tv (Ld s)):=by rw[show(2:Int) ^ (Min.min (Int.toNat 8) (IntKind.bits .u32))=256 from rfl,show(2:Int) ^ (Min.min (Int.toNat 16) (IntKind.bits .u32))=65536 from rfl,show(2:Int) ^ (Min.min (Int.toNat 24) (IntKind.bits .u32))=16777216 from rfl];simp only[KS,Int.fdiv_eq_ediv_of_nonneg _ (show(0:Int)<=256 by decide),Int.fdiv_eq_ediv_of_nonneg _ (show(0:Int)<=65536 by decide),Int.fdiv_eq_ediv_of_nonneg _ (show(0:Int)<=16777216 by decide)];rfl
 refine⟨rfl,tv (Ld s),YH s (by omega),by decide,by decide,by decide,rfl,.inl rfl,?_,rfl,Cz s,?_,rfl⟩;·rw[e];rfl
 ·rw[e];exact MT [s,BZ (Xk (tv (Ld s)))] (by simp) (by simp only[Da,Bo,Xk];simp;omega)
theorem AFi (s:bA)(hs:s.size<=140737488300000):Runs Fs 185 [.n (.str s)] [] (.n (.str (Cz s))) []:=by
 refine Ag (c:=c185) rfl rfl ?_;rw[yN];have hb:=GA (Ld s);have e:[Mir.D.int .u8 (IntKind.u8.wrap (Int.tmod (tv (Ld s)) 256)),Mir.D.int .u8 (IntKind.u8.wrap (Int.tmod (IntKind.u32.wrap (Int.tdiv (tv (Ld s)) 256)) 256)),Mir.D.int .u8 (IntKind.u8.wrap (Int.tmod (IntKind.u32.wrap (Int.tdiv (tv (Ld s)) 65536)) 256)),Mir.D.int .u8 (IntKind.u8.wrap (IntKind.u32.wrap (Int.tdiv (tv (Ld s)) 16777216)))]=Xk (tv (Ld s)):=by
  have g:∀m:Int,0<m->IntKind.u32.wrap (Int.tdiv (tv (Ld s)) m)=tv (Ld s) / m:=λm hm=>by rw[Int.tdiv_eq_ediv_of_nonneg hb.1,K8];exact⟨Int.ediv_nonneg hb.1 (by omega),Int.lt_of_le_of_lt (Int.ediv_le_self _ hb.1) hb.2⟩
  have g0:∀m:Int,0<m->0<=tv (Ld s) / m:=λm hm=>Int.ediv_nonneg hb.1 (by omega);rw[g 256 (by decide),g 65536 (by decide),g 16777216 (by decide),Int.tmod_eq_emod_of_nonneg hb.1,Int.tmod_eq_emod_of_nonneg (g0 256 (by decide)),Int.tmod_eq_emod_of_nonneg (g0 65536 (by decide))];simp only[KS,Xk,Int.emod_emod]
 refine⟨_,AH3 s (by omega),by decide,by decide,by decide,by decide,by decide,by decide,rfl,.inl rfl,by rw[e];rfl,?_,?_⟩<;>rw[e];·show((s.size+(BZ (Xk (tv (Ld s)))).size:Nat):Int)<=_;rw[Bo];simp only[Xk,List.length_cons,List.length_nil];omega
 ·congr 2
def pg (k g:Int)(b:bA):AV := .agg [aI k,aI g,aS b]
def pgOK (k g:Int)(b:bA):Prop:=1<=k/\k<=5/\0<=g/\g<=1099511627776/\(b.size:Int)<=4000
instance (k g:Int) (b:bA):Decidable (pgOK k g b):=by unfold pgOK;infer_instance
theorem M0 (k g:Int)(b:bA):Ae (decide (k>=1)) (Ae (decide (k<=5)) (Ae (decide (g>=0)) (Ae (decide (g<=1099511627776)) (AV.n (Mir.D.bool (decide ((((ByteArray.size b):Nat):Int)<=4000)))=AV.n (Mir.D.bool (decide (pgOK k g b)))) (AV.n (Mir.D.bool false)=AV.n (Mir.D.bool (decide (pgOK k g b))))) (AV.n (Mir.D.bool false)=AV.n (Mir.D.bool (decide (pgOK k g b))))) (AV.n (Mir.D.bool false)=AV.n (Mir.D.bool (decide (pgOK k g b))))) (AV.n (Mir.D.bool false)=AV.n (Mir.D.bool (decide (pgOK k g b)))):=by
 have no:¬pgOK k g b->AV.n (Mir.D.bool false)=AV.n (Mir.D.bool (decide (pgOK k g b))):=λh=>by rw[decide_eq_false h]
 refine Ab (λh1=>Ab (λh2=>Ab (λh3=>Ab (λh4=>?_) (λh=>no ?_)) (λh=>no ?_)) (λh=>no ?_)) (λh=>no ?_)
 ·have:(((b.size:Nat):Int)<=4000) ↔ pgOK k g b:=⟨λh=>⟨h1,h2,h3,h4,h⟩,λh=>h.2.2.2.2⟩
  exact congrArg (λz=>AV.n (Mir.D.bool z)) (decide_eq_decide.2 this)
 all_goals
   unfold pgOK
   omega
theorem yO (k g:Int)(b:bA):Runs Fs 103 [pg k g b] [] (aB (decide (pgOK k g b))) []:=by refine Ag (c:=c103) rfl rfl ?_;unfold pg;rewrite[ACu,(AC3 _ _ _ _).down];exact M0 k g b
theorem AHB (k g:Int)(b:bA):Runs Fs 187 [pg k g b] [] (aB (decide (pgOK k g b))) []:=by refine Ag (c:=c187) rfl rfl ?_;unfold pg;rewrite[AAB,(ACQ _ _ _ _).down];exact M0 k g b
def Dv (k g:Int)(b:bA):bA:=Mc [BZ (be k 1),BZ (be g 6),BR b]
def Cq (k g:Int)(b:bA):bA:=TrimS (Cz (Dv k g b))
theorem C7 (k g:Int)(b:bA):(Dv k g b).size=9+b.size:=by simp only[Dv,Ev,Da,Bo,C8,CE];omega
def J8 (k g:Int)(b:bA):AV:=if pgOK k g b then .tup [aS (Cq k g b),aI 0] else .tup [aS (ByteArray.mk (List.toArray [])),aI 1]
theorem p56 (k g:Int)(b:bA):Runs Fs 56 [pg k g b] [] (J8 k g b) []:=by
 refine Ag (c:=c56) rfl rfl ?_;unfold pg;rewrite[AHg,(AFT _ _ _ _).down];refine⟨_,yO k g b,?_⟩;by_cases h:pgOK k g b
 ·have h':=h;obtain⟨h1,h2,h3,h4,h5⟩:=h';rw[decide_eq_true h];have hb:¬((b.size:Int) > 65535):=by omega
  refine Aa (λh=>by cases h) (λ_=>⟨_,_,Cr k 1 (by omega) (by omega) (by omega) (by show k<256;omega),_,_,Cr g 6 (by omega) (by omega) (by omega) (by show g<281474976710656;omega),BR b,0,by simpa only[J4,if_neg hb] using bQ b,rfl,Dv k g b,?_,Cz (Dv k g b),AAs _ (by rw[C7];omega),Cq k g b,Vs _ (by rw[EC,C7];omega),by unfold J8;rw[if_pos h]⟩);exact MT [BZ (be k 1),BZ (be g 6),BR b] (by simp) (by simp only[Da,Bo,C8,CE];omega)
 ·rw[decide_eq_false h];exact Aa (λ_=>by unfold J8;rw[if_neg h]) (λh=>by cases h)
theorem EN (x:bA):x.toList=x.data.toList:=ByteArray.toList_eq x
theorem Dn (x y:bA):(x.toList==y.toList)=decide (x=y):=by
 rw[EN,EN];by_cases h:x=y;·subst h;simp
 ·rw[decide_eq_false h];refine beq_eq_false_iff_ne.2 λe=>h (AE e)
theorem GL {x y:bA}{A B:Prop}(h1:x≠y->A)(h2:x=y->B):Ae (Bool.not (x.toList==y.toList)) A B:=by
 rw[Dn];by_cases h:x=y;·rw[decide_eq_true h];exact h2 h
 ·rw[decide_eq_false h];exact h1 h
def Q0 (x:bA):AV:=
 if (x.size:Int)<4 then .tup [aS (ByteArray.mk (List.toArray [])),aI 3]
 else if Cz (x.extract 0 ((x.size:Int)-4).toNat)=x then .tup [aS (x.extract 0 ((x.size:Int)-4).toNat),aI 0]
 else .tup [aS (ByteArray.mk (List.toArray [])),aI 41]
theorem AET (x:bA)(hs:x.size<=140737488300000):Runs Fs 153 [aS x] [] (Q0 x) []:=by
 refine Ag (c:=c153) rfl rfl ?_;rw[ACL];rw[(zQ _ _).down];rw[Ac ((x.size:Int)-4) (by omega)];refine Ab (λh=>by unfold Q0;rw[if_pos (by omega)]) (λh=>⟨by omega,by omega,Cz (x.extract 0 ((x.size:Int)-4).toNat),AAs _ (by rw[ByteArray.size_extract];omega),GL (λhe=>?_) (λhe=>⟨by omega,by omega,?_⟩)⟩);·unfold Q0;rw[if_neg (by omega),if_neg he]
 ·unfold Q0;rw[if_neg (by omega),if_pos he]
def F (s:bA):bA:=KZ s (4096-s.size)
theorem R7 {s:bA}(h:s.size<=4096):(F s).size=4096:=by unfold F;rw[U4];omega
def Ey (e:Int):AV := .tup [pg 0 0 (ByteArray.mk (List.toArray [])),aI e]
def DC (f:bA):Nat:=(Ct (An f 7 2)).toNat
def GetPR (s:bA):AV:=
 if 4096<s.size then Ey 1
 else if 4000<DC (F s) then Ey 4
 else if Cz ((F s).extract 0 (9+DC (F s)))≠(F s).extract 0 (13+DC (F s)) then Ey 41
 else if Ct (An (F s) 0 1)<1\/5<Ct (An (F s) 0 1) then Ey 40
 else if ¬pgOK (Ct (An (F s) 0 1)) (Ct (An (F s) 1 6)) ((F s).extract 9 (9+DC (F s))) then Ey 4
 else if TrimS ((F s).extract (13+DC (F s)) 4096)≠ByteArray.mk (List.toArray []) then Ey 4
 else .tup [pg (Ct (An (F s) 0 1)) (Ct (An (F s) 1 6)) ((F s).extract 9 (9+DC (F s))),aI 0]
theorem SW (f:bA):((DC f:Nat):Int)=Ct (An f 7 2):=by have:=(Eg (An f 7 2)).1;unfold DC;omega
theorem Yy (f:bA):DC f<=65535:=by
 have h:=Eg (An f 7 2);have hl:=Ft f 7 2;have:(256:Int) ^ (An f 7 2).length<=256 ^ 2:=by
  have h2:(An f 7 2).length=0\/(An f 7 2).length=1\/(An f 7 2).length=2:=by simp only[show Int.toNat 2=2 from rfl]at hl;omega
  rcases h2 with e|e|e<;>rw[e]<;>decide
 have e2:(256:Int) ^ 2=65536:=rfl;rw[e2]at this;unfold DC;omega
theorem Nc (f:bA)(n:Nat)(at_ k:Int)(h0:0<=at_)(hk:0<=k)(h:at_+k<=n):An (f.extract 0 n) at_ k=An f at_ k:=by unfold An;rw[BY,List.drop_zero,List.drop_take,List.take_take];congr 1;omega
theorem TG (f:bA)(a b n:Nat)(h:b<=n):(f.extract 0 n).extract a b=f.extract a b:=by refine AE ?_;rw[BY,BY,BY,List.drop_zero,List.take_take,Nat.min_eq_left h]
theorem zN (s:bA)(hs:(s.size:Int)<=9223372036854775807):Runs Fs 119 [.n (.str s)] [] (GetPR s) []:=by
 refine Ag (c:=c119) rfl rfl ?_;rewrite[vP,(zR _ _).down];have h16:=yK s 4096 hs;by_cases h1:4096<s.size;·unfold K3 at h16;rw[if_neg (by omega),if_pos (by omega)]at h16;exact⟨_,_,h16,Aa (λ_=>by unfold GetPR;rw[if_pos h1];rfl) (λh=>by cases h)⟩
 ·rw[Fm (by omega) (by omega)]at h16;have eF:KZ s (4096-(s.size:Int)).toNat=F s:=by unfold F;congr 1;omega
  rw[eF]at h16;have hF:=R7 (s:=s) (by omega);have hn:=SW (F s);have hn2:=Yy (F s);have hg:=gW (F s) (by omega) 7 2;rw[A9 (by omega) (by omega)]at hg;refine⟨_,_,h16,Aa (λh=>by cases h) (λ_=>⟨_,_,_,hg,?_⟩)⟩;rw[<-hn,Ac (9+(DC (F s):Int)) (by omega),Ac (9+(DC (F s):Int)+4) (by omega)];refine Ab (λh=>by unfold GetPR;rw[if_neg h1,if_pos (by omega)];rfl) (λh2=>?_);have e13:(9+(DC (F s):Int)+4).toNat=13+DC (F s):=by omega
  rw[e13,hF];have hx:((F s).extract 0 (13+DC (F s))).size=13+DC (F s):=by rw[ByteArray.size_extract,hF];omega
  have ho:=AET ((F s).extract 0 (13+DC (F s))) (by omega);unfold Q0 at ho;rw[if_neg (by omega),hx,show((13+DC (F s):Nat):Int)-4=((9+DC (F s):Nat):Int) by omega,Int.toNat_natCast,TG _ _ _ _ (by omega)]at ho;refine⟨by omega,by omega,?_⟩;by_cases h3:Cz ((F s).extract 0 (9+DC (F s)))=(F s).extract 0 (13+DC (F s))
  ·rw[if_pos h3]at ho;have hi:((F s).extract 0 (9+DC (F s))).size=9+DC (F s):=by rw[ByteArray.size_extract,hF];omega
   have hk:=gW ((F s).extract 0 (9+DC (F s))) (by omega) 0 1;rw[A9 (by omega) (by omega),Nc _ _ _ _ (by omega) (by omega) (by omega)]at hk;have hgg:=gW ((F s).extract 0 (9+DC (F s))) (by omega) 1 6;rw[A9 (by omega) (by omega),Nc _ _ _ _ (by omega) (by omega) (by omega)]at hgg;refine⟨_,_,ho,Aa (λh=>by cases h) (λ_=>⟨_,_,_,hk,_,_,_,hgg,by omega,by omega,?_⟩)⟩;rw[hi,show Int.toNat 9=9 from rfl,TG _ _ _ _ (by omega)];have e40:Ct (An (F s) 0 1)<1\/5<Ct (An (F s) 0 1)->Ey 40=GetPR s:=λh=>by unfold GetPR;rw[if_neg h1,if_neg (by omega),if_neg (by simpa using h3),if_pos h]
   refine Ab (λh=>e40 (.inl h)) (λh4=>Ab (λh=>e40 (.inr h)) (λh5=>⟨_,yO _ _ _,?_⟩));by_cases h6:pgOK (Ct (An (F s) 0 1)) (Ct (An (F s) 1 6)) ((F s).extract 9 (9+DC (F s)))
   ·rw[decide_eq_true h6];refine Aa (λh=>by cases h) (λ_=>⟨by omega,by omega,_,Vs _ (by rw[ByteArray.size_extract];omega),GL (λh7=>?_) (λh7=>?_)⟩);·unfold GetPR;rw[if_neg h1,if_neg (by omega),if_neg (by simpa using h3),if_neg (by omega),if_neg (by simpa using h6),if_pos h7];rfl
    ·unfold GetPR;rw[if_neg h1,if_neg (by omega),if_neg (by simpa using h3),if_neg (by omega),if_neg (by simpa using h6),if_neg (by simpa using h7)];rfl
   ·rw[decide_eq_false h6];exact Aa (λ_=>by unfold GetPR;rw[if_neg h1,if_neg (by omega),if_neg (by simpa using h3),if_neg (by omega),if_pos h6];rfl) (λh=>by cases h)
  ·rw[if_neg h3]at ho;exact⟨_,_,ho,Aa (λ_=>by unfold GetPR;rw[if_neg h1,if_neg (by omega),if_pos h3];rfl) (λh=>by cases h)⟩
theorem VU (f:bA)(a b:UInt8)(h7:f.data.toList[7]?=some a)(h8:f.data.toList[8]?=some b):Ct (An f 7 2)=(a.toNat:Int)*256+b.toNat:=by
 obtain⟨h7',e7⟩:=List.getElem?_eq_some_iff.1 h7;obtain⟨h8',e8⟩:=List.getElem?_eq_some_iff.1 h8;have:An f 7 2=[a,b]:=by unfold An;rw[show Int.toNat 7=7 from rfl,show Int.toNat 2=2 from rfl,List.drop_eq_getElem_cons h7',List.take_succ_cons,List.drop_eq_getElem_cons h8',List.take_succ_cons,List.take_zero,e7,e8]
 rw[this];simp[Ct]
theorem Sz (f:bA)(a:UInt8)(h:f.data.toList[0]?=some a):Ct (An f 0 1)=(a.toNat:Int):=by
 obtain⟨h',e⟩:=List.getElem?_eq_some_iff.1 h;have:An f 0 1=[a]:=by unfold An;rw[show Int.toNat 0=0 from rfl,show Int.toNat 1=1 from rfl,List.drop_eq_getElem_cons h',List.take_succ_cons,List.take_zero,e]
 rw[this];simp[Ct]
theorem AIU (s:bA)(hs:(s.size:Int)<=9223372036854775807):Runs Fs 148 [.n (.str s)] [] (GetPR s) []:=by
 refine Ag (c:=c148) rfl rfl ?_;rewrite[ABf,(ABT _ _).down];refine Ab (λh=>by unfold GetPR;rw[if_pos (by omega)];rfl) (λh1'=>?_);have h1:¬4096<s.size:=by omega
 have h19:=AEk s 4096 hs;rw[Fm (by omega) (by omega)]at h19;have eF:KZ s (4096-(s.size:Int)).toNat=F s:=by unfold F;congr 1;omega
 rw[eF]at h19;have hF:=R7 (s:=s) (by omega);have hFl:(F s).data.toList.length=4096:=by rw[Aj,hF]
 have g7:(F s).data.toList[7]?=some (F s).data.toList[7]:=gI (by omega);have g8:(F s).data.toList[8]?=some (F s).data.toList[8]:=gI (by omega);have g0:(F s).data.toList[0]?=some (F s).data.toList[0]:=gI (by omega);refine⟨_,_,h19,by decide,_,g7,by decide,_,g8,?_⟩;have hn:=SW (F s);have hn2:=Yy (F s);have e2:=VU (F s) _ _ g7 g8;have e0:=Sz (F s) _ g0;have b7:=((F s).data.toList[7]).toNat_lt;have b8:=((F s).data.toList[8]).toNat_lt;have b0:=((F s).data.toList[0]).toNat_lt;generalize (F s).data.toList[7]=a7 at *;generalize (F s).data.toList[8]=a8 at *;generalize (F s).data.toList[0]=a0 at *;have w1:wI (wI (256*wI ((a7.toNat:Nat):Int))+wI ((a8.toNat:Nat):Int))=(DC (F s):Int):=by rw[Ac ((a7.toNat:Nat):Int) (by omega),Ac ((a8.toNat:Nat):Int) (by omega),Ac (256*((a7.toNat:Nat):Int)) (by omega),Ac _ (by omega)];omega
 rw[w1,Ac (9+(DC (F s):Int)) (by omega),Ac (13+(DC (F s):Int)) (by omega)];refine Ab (λh=>by unfold GetPR;rw[if_neg h1,if_pos (by omega)];rfl) (λh2=>?_);rw[show(9+(DC (F s):Int)).toNat=9+DC (F s) by omega,show(13+(DC (F s):Int)).toNat=13+DC (F s) by omega,hF];refine⟨by omega,by omega,_,AFi _ (by rw[ByteArray.size_extract];omega),by omega,by omega,GL (λh3=>by unfold GetPR;rw[if_neg h1,if_neg (by omega),if_pos h3];rfl) (λh3=>?_)⟩;have hg:=VZ (F s) (by omega) 1 6;rw[A9 (by omega) (by omega)]at hg;refine⟨_,_,_,hg,by decide,_,g0,by omega,by omega,by decide,by omega,?_⟩;rw[Ac ((a0.toNat:Nat):Int) (by omega),<-e0,show Int.toNat 9=9 from rfl];have e40:Ct (An (F s) 0 1)<1\/5<Ct (An (F s) 0 1)->Ey 40=GetPR s:=λh=>by unfold GetPR;rw[if_neg h1,if_neg (by omega),if_neg (by simpa using h3),if_pos h]
 refine Ab (λh=>e40 (.inl h)) (λh4=>Ab (λh=>e40 (.inr h)) (λh5=>⟨_,AHB _ _ _,?_⟩));by_cases h6:pgOK (Ct (An (F s) 0 1)) (Ct (An (F s) 1 6)) ((F s).extract 9 (9+DC (F s)))
 ·rw[decide_eq_true h6];refine Aa (λh=>by cases h) (λ_=>⟨by omega,by omega,_,AIt _ (by rw[ByteArray.size_extract];omega),GL (λh7=>?_) (λh7=>?_)⟩);·unfold GetPR;rw[if_neg h1,if_neg (by omega),if_neg (by simpa using h3),if_neg (by omega),if_neg (by simpa using h6),if_pos h7];rfl
  ·unfold GetPR;rw[if_neg h1,if_neg (by omega),if_neg (by simpa using h3),if_neg (by omega),if_neg (by simpa using h6),if_neg (by simpa using h7)];rfl
 ·rw[decide_eq_false h6];exact Aa (λ_=>by unfold GetPR;rw[if_neg h1,if_neg (by omega),if_neg (by simpa using h3),if_neg (by omega),if_pos h6];rfl) (λh=>by cases h)
theorem A6 (s:bA):(∃e,e≠0/\GetPR s=Ey e)\/∃k g b,GetPR s = .tup [pg k g b,aI 0]/\pgOK k g b/\s.size<=4096/\DC (F s)<=4000/\Cz ((F s).extract 0 (9+DC (F s)))=(F s).extract 0 (13+DC (F s)) /\
   k=Ct (An (F s) 0 1)/\g=Ct (An (F s) 1 6)/\b=(F s).extract 9 (9+DC (F s))/\TrimS ((F s).extract (13+DC (F s)) 4096)=ByteArray.mk (List.toArray []):=by
 unfold GetPR
 split
 ·exact .inl ⟨1,by decide,rfl⟩
 split
 ·exact .inl ⟨4,by decide,rfl⟩
 split
 ·exact .inl ⟨41,by decide,rfl⟩
 split
 ·exact .inl ⟨40,by decide,rfl⟩
 split
 ·exact .inl ⟨4,by decide,rfl⟩
 split
 ·exact .inl ⟨4,by decide,rfl⟩
 ·rename_i h1 h2 h3 h4 h5 h6
  exact .inr ⟨_,_,_,rfl,by simpa using h5,by omega,by omega,by simpa using h3,rfl,rfl,rfl,by simpa using h6⟩
theorem Sa (s:bA)(at_ k:Int):∃a b c,HZ s at_ k = .tup [aI a,aI b,aI c]:=by
 unfold HZ;split;·exact⟨_,_,_,rfl⟩
 ·split<;>exact⟨_,_,_,rfl⟩
def HL (s:bA)(at_:Int):AV:=
 if at_<0\/(s.size:Int)<at_ then .tup [aS (ByteArray.mk (List.toArray [])),aI 0,aI 1]
 else if (s.size:Int)-at_<2 then .tup [aS (ByteArray.mk (List.toArray [])),aI 0,aI 3]
 else if (s.size:Int)-(at_+2)<Ct (An s at_ 2) then .tup [aS (ByteArray.mk (List.toArray [])),aI 0,aI 3]
 else .tup [aS (s.extract (at_+2).toNat (at_+2+Ct (An s at_ 2)).toNat),aI (at_+2+Ct (An s at_ 2)),aI 0]
theorem Sc (s:bA)(at_:Int):∃a b c,HL s at_ = .tup [aS a,aI b,aI c]:=by
 unfold HL;split;·exact⟨_,_,_,rfl⟩
 ·split;·exact⟨_,_,_,rfl⟩
  ·split<;>exact⟨_,_,_,rfl⟩
theorem Tf (s:bA)(hs:(s.size:Int)<=9223372036854775807)(at_:Int)(G:Int->Int->Int->Prop)(hG:∀a b c,HZ s at_ 2 = .tup [aI a,aI b,aI c]->G a b c):
   ∃x0 x1 x2:Int,G x0 x1 x2 /\
    (Ae (x2 != 0)
     (Mir.AV.tup [(Mir.AV.n (Mir.D.str (ByteArray.mk (List.toArray [])))),(Mir.AV.n (Mir.D.int .i64 0)),(Mir.AV.n (Mir.D.int .i64 x2))]=HL s at_)
     (Ae (decide ((wI ((((ByteArray.size s):Nat):Int)-x1))<x0))
      (Mir.AV.tup [(Mir.AV.n (Mir.D.str (ByteArray.mk (List.toArray [])))),(Mir.AV.n (Mir.D.int .i64 0)),(Mir.AV.n (Mir.D.int .i64 3))]=HL s at_)
      (((0:Int)<=(wI (x1+x0))) /\
       ((((wI (x1+x0)):Int)<=(((ByteArray.size s):Nat):Int)) /\
        (((0:Int)<=x1) /\
         (((x1:Int)<=(((Int.toNat (wI (x1+x0))):Nat):Int)) /\
          (Mir.AV.tup [(Mir.AV.n (Mir.D.str (ByteArray.extract s (Int.toNat x1) (Int.toNat (wI (x1+x0)))))),(Mir.AV.n (Mir.D.int .i64 (wI (x1+x0)))),(Mir.AV.n (Mir.D.int .i64 0))]=HL s at_))))))):=by
 by_cases h:at_<0\/(s.size:Int)<at_
 ·refine⟨_,_,_,hG _ _ _ (Gt (by omega)),Aa (λ_=>?_) (λh=>by cases h)⟩
  unfold HL;rw[if_pos h]
 ·by_cases h2:(s.size:Int)-at_<2
  ·refine⟨_,_,_,hG _ _ _ (Cb (by omega) h2),Aa (λ_=>?_) (λh=>by cases h)⟩
   unfold HL;rw[if_neg h,if_pos h2]
  ·have hn:=RW (l:=An s at_ 2) (by have:=Ft s at_ 2;omega)
   refine⟨_,_,_,hG _ _ _ (A9 (by omega) h2),Aa (λh=>by cases h) (λ_=>?_)⟩
   rw[Ac _ (by omega)]
   refine Ab (λh3=>?_) (λh3=>?_)
   ·unfold HL;rw[if_neg h,if_neg h2,if_pos h3]
   ·rw[Ac _ (by omega)]
    refine⟨by omega,by omega,by omega,by omega,?_⟩
    unfold HL;rw[if_neg h,if_neg h2,if_neg h3]
theorem p42 (s:bA)(hs:(s.size:Int)<=9223372036854775807)(at_:Int):Runs Fs 42 [aS s,aI at_] [] (HL s at_) []:=by refine Ag (c:=c42) rfl rfl ?_;rewrite[AHw,(AIW _ _ _).down];exact Tf s hs at_ _ λa b c h=>h▸(gW s hs at_ 2)
theorem oE (s:bA)(hs:(s.size:Int)<=9223372036854775807)(at_:Int):Runs Fs 189 [aS s,aI at_] [] (HL s at_) []:=by refine Ag (c:=c189) rfl rfl ?_;rewrite[xQ,(AC1 _ _ _).down];exact Tf s hs at_ _ λa b c h=>h▸(VZ s hs at_ 2)
theorem ZJ (s a c:bA)(hs:(s.size:Int)<=65535):HL (Mc [a,BR s,c]) a.size = .tup [.n (.str s),.n (.int .i64 (a.size+2+s.size)),.n (.int .i64 0)]:=by
 have hz:((Mc [a,BR s,c]).size:Int)=a.size+2+s.size+c.size:=by rw[NP,CE];omega
 have hnum:Ct (An (Mc [a,BR s,c]) a.size 2)=s.size:=by rw[Vm _ _ _ _ (by rw[CE];omega),CB,List.take_append_of_le_length (by rw[Ap];decide),List.take_of_length_le (by rw[Ap];decide),D9];omega
 unfold HL;rw[if_neg (by omega),if_neg (by omega),hnum,if_neg (by omega)];congr 3;congr 2;refine AE ?_;rw[BY,ZI,CB];have e1:((a.size:Int)+2+s.size).toNat=a.data.toList.length+(2+s.data.toList.length):=by simp only[Aj];omega
 have e2:((a.size:Int)+2).toNat=a.data.toList.length+2:=by simp only[Aj];omega
 have hb:=Ap s.size 2;rw[e1,e2,<-List.drop_drop,List.take_length_add_append,List.drop_left,List.take_append_of_le_length (by simp[hb]),List.take_of_length_le (by simp[hb])];generalize Cj s.size 2=l at hb;rw[<-hb,List.drop_left]
theorem IX:∀l:List UInt8,Cj (Ct l) l.length=l
 | []=>rfl
 | b::r=>by
  have h1:=Eg r;have h2:=b.toNat_lt;have hp:(0:Int)<256 ^ r.length:=Int.pow_pos (by decide);have e:Ct (b::r) / 256 ^ r.length=b.toNat:=by rw[LK,Int.add_comm,Int.add_mul_ediv_right _ _ (by omega),Int.ediv_eq_zero_of_lt h1.1 h1.2,Int.zero_add]
  have e2:∀s,s<=r.length->Cj (Ct (b::r)) s=Cj (Ct r) s:=by
   intro s
   induction s with
   | zero=>intro _;rfl
   | succ s ih=>
    intro hs;have hd:Ct (b::r) / 256 ^ s % 256=Ct r / 256 ^ s % 256:=by
     have hps:(0:Int)<256 ^ s:=Int.pow_pos (by decide);rw[LK];have:(b.toNat:Int)*256 ^ r.length=(b.toNat*256 ^ (r.length-s-1)*256)*256 ^ s:=by
      have:r.length=(r.length-s-1)+1+s:=by omega
      conv=>lhs;rw[this,Int.pow_add,Int.pow_add]
      simp only[Int.pow_one,Int.mul_assoc]
     rw[this,Int.add_comm,Int.add_mul_ediv_right _ _ (by omega),Int.add_mul_emod_self_right]
    simp only[Cj,hd,ih (by omega)]
  rw[List.length_cons,Cj,e,e2 _ (Nat.le_refl _),IX r];congr 1;have:((b.toNat:Int) % 256).toNat=b.toNat:=by omega
  rw[this];simp
theorem CJ {f:bA}{A B C:List UInt8}{at_ k:Int}(h:f.data.toList=A++(B++C))(ha:A.length=at_.toNat)(hb:B.length=k.toNat):An f at_ k=B:=by unfold An;rw[h,<-ha,List.drop_left,<-hb,List.take_left]
theorem T1 {f:bA}{t:bA}{C:List UInt8}{n:Nat}(h:f.data.toList=t.data.toList++C)(hn:n=t.size):f.extract 0 n=t:=by refine AE ?_;rw[BY,h,hn,<-Aj,List.take_left,List.drop_zero]
theorem dL {f:bA}{A C:List UInt8}{b:bA}{i j:Nat}(h:f.data.toList=A++(b.data.toList++C))(hi:i=A.length)(hj:j=A.length+b.size):f.extract i j=b:=by refine AE ?_;rw[BY,h,hi,hj,<-Aj,List.take_length_add_append,List.take_left,List.drop_left]
theorem LM (k g:Int)(b:bA):(Dv k g b).data.toList=Cj k 1++(Cj g 6++(Cj b.size 2++b.data.toList)):=by unfold Dv;rw[ZI,C3,C3,DO,DO,CB]
theorem Sb (t:bA):∃c:List UInt8,c.length=4/\(Cz t).data.toList=t.data.toList++c:=by refine⟨(Xk (tv (Ld t))).map Mir.byteOf,by simp[Xk],?_⟩;unfold Cz;rw[El];simp[C3]
theorem MB {s:bA}:(F s).data.toList=s.data.toList++List.replicate (4096-s.size) 0:=by unfold F;rw[DB]
theorem pQ {s t:bA}(hs:s.size<=4096)(ht:t.size<=4096)(h:TrimS s=TrimS t):F s=F t:=by
 have e:tz s.data.toList=tz t.data.toList:=by rw[<-AS,<-AS,h]
 refine AE ?_;rw[MB,MB];obtain⟨m,h1,_⟩:=Er _ s.data.toList rfl;obtain⟨n,h2,_⟩:=Er _ t.data.toList rfl;have l1:=congrArg List.length h1;have l2:=congrArg List.length h2;rw[List.length_append,List.length_replicate,Aj]at l1 l2;rw[h1,h2,e,List.append_assoc,List.append_assoc,List.replicate_append_replicate,List.replicate_append_replicate];rw[e]at l1;congr 2;omega
theorem M9 (k g:Int)(b s:bA)(h:pgOK k g b)(hs:s.size<=4096)(ht:TrimS s=Cq k g b):GetPR s = .tup [pg k g b,aI 0]:=by
 obtain⟨k1,k5,g0,g1,hb⟩:=id h;have hT:(Cz (Dv k g b)).size=13+b.size:=by rw[EC,C7];omega
 have hF:F s=F (Cz (Dv k g b)):=pQ hs (by rw[hT];omega) (by rw[ht];rfl);obtain⟨c,hc,hS⟩:=Sb (Dv k g b);have hd:(F s).data.toList=(Cz (Dv k g b)).data.toList++List.replicate (4096-(13+b.size)) 0:=by rw[hF,MB,hT]
 have hd2:(F s).data.toList=Cj k 1++(Cj g 6++(Cj b.size 2++(b.data.toList++(c++List.replicate (4096-(13+b.size)) 0)))):=by rw[hd,hS,LM];simp only[List.append_assoc]
 have q0:An (F s) 0 1=Cj k 1:=CJ (A:=[]) hd2 rfl (Ap _ _);have q1:An (F s) 1 6=Cj g 6:=CJ (A:=Cj k 1) hd2 (Ap _ _) (Ap _ _);have q7:An (F s) 7 2=Cj b.size 2:=CJ (A:=Cj k 1++Cj g 6) (B:=Cj b.size 2) (by rw[hd2];simp only[List.append_assoc];rfl) (by simp[Ap]) (Ap _ _);have n0:Ct (An (F s) 0 1)=k:=by rw[q0,D9];show k % 256=k;omega
 have n1:Ct (An (F s) 1 6)=g:=by rw[q1,D9];show g % 281474976710656=g;omega
 have n7:DC (F s)=b.size:=by unfold DC;rw[q7,D9];show((b.size:Int) % 65536).toNat=b.size;omega
 have x0:(F s).extract 0 (9+b.size)=Dv k g b:=T1 (C:=c++List.replicate (4096-(13+b.size)) 0) (by rw[hd,hS,List.append_assoc]) (by rw[C7]);have x1:(F s).extract 0 (13+b.size)=Cz (Dv k g b):=T1 hd hT.symm;have x2:(F s).extract 9 (9+b.size)=b:=dL (A:=Cj k 1++(Cj g 6++Cj b.size 2)) (C:=c++List.replicate (4096-(13+b.size)) 0) (by rw[hd2];simp only[List.append_assoc]) (by simp[Ap]) (by simp[Ap]);have x3:TrimS ((F s).extract (13+b.size) 4096)=ByteArray.mk (List.toArray []):=by refine AE ?_;rw[AS,BY,hd,List.take_of_length_le (by rw[List.length_append,Aj,hT,List.length_replicate];omega),<-hT,<-Aj,List.drop_left];have:=Fx [] (4096-(Cz (Dv k g b)).data.toList.length);simpa[X9] using this
 unfold GetPR;rw[n7,n0,n1,x0,x1,x2,x3,if_neg (by omega),if_neg (by omega),if_neg (by simp),if_neg (by omega),if_neg (by simpa using h),if_neg (by simp)]
theorem HV (k g:Int)(b:bA)(h:pgOK k g b):(Cq k g b).size<=4013:=by have:=Dw (Cz (Dv k g b));rw[EC,C7]at this;have:=h.2.2.2.2;unfold Cq;omega
theorem RK (k g:Int)(b:bA)(n:Nat):TrimS (KZ (Cq k g b) n)=Cq k g b:=by refine AE ?_;rw[AS,DB,Fx,Cq,AS,OY]
theorem PJ (s:bA)(k g:Int)(b:bA)(hs:s.size<=4096)(hn:DC (F s)<=4000)(h41:Cz ((F s).extract 0 (9+DC (F s)))=(F s).extract 0 (13+DC (F s)))
  (hk:k=Ct (An (F s) 0 1)) (hg:g=Ct (An (F s) 1 6)) (hb:b=(F s).extract 9 (9+DC (F s))) (hz:TrimS ((F s).extract (13+DC (F s)) 4096)=ByteArray.mk (List.toArray [])):Cq k g b=TrimS s:=by
 have hF:=R7 hs
 have hl:(F s).data.toList.length=4096:=by rw[Aj,hF]
 have hbs:b.size=DC (F s):=by rw[hb,ByteArray.size_extract,hF];omega
 have pl:∀at_ k:Int,0<=at_->0<=k->at_+k<=4096->(An (F s) at_ k).length=k.toNat:=λat_ k h0 h1 h2=>by unfold An;rw[List.length_take,List.length_drop,hl];omega
 have l0:=pl 0 1 (by omega) (by omega) (by omega)
 have l1:=pl 1 6 (by omega) (by omega) (by omega)
 have l7:=pl 7 2 (by omega) (by omega) (by omega)
 have b0:Cj k 1=An (F s) 0 1:=by have:=IX (An (F s) 0 1);rw[l0]at this;rw[hk];exact this
 have b1:Cj g 6=An (F s) 1 6:=by have:=IX (An (F s) 1 6);rw[l1]at this;rw[hg];exact this
 have b7:Cj b.size 2=An (F s) 7 2:=by have:=IX (An (F s) 7 2);rw[l7]at this;rw[hbs,SW];exact this
 have hPB:Dv k g b=(F s).extract 0 (9+DC (F s)):=by refine AE ?_;rw[LM,b0,b1,b7,hb,BY,BY,List.drop_zero];unfold An;generalize (F s).data.toList=l at hl;simp only[show Int.toNat 0=0 from rfl,show Int.toNat 1=1 from rfl,show Int.toNat 6=6 from rfl,show Int.toNat 7=7 from rfl,show Int.toNat 2=2 from rfl,List.drop_zero];rw[List.drop_take,show 9+DC (F s)-9=DC (F s) by omega,show 9+DC (F s)=1+(6+(2+DC (F s))) by omega,List.take_add,List.take_add (l:=List.drop 1 l),List.drop_drop,List.take_add (l:=List.drop (1+6) l),List.drop_drop]
 have e1:Cq k g b=TrimS ((F s).extract 0 (13+DC (F s))):=by unfold Cq;rw[hPB,h41]
 rw[e1]
 refine AE ?_
 rw[AS,AS]
 have e2:tz s.data.toList=tz (F s).data.toList:=by rw[MB,Fx]
 rw[e2]
 have hz':=congrArg (λz:bA=>z.data.toList) hz
 simp only[AS]at hz'
 obtain⟨m,h2,_⟩:=Er _ ((F s).extract (13+DC (F s)) 4096).data.toList rfl
 rw[hz',List.nil_append]at h2
 rw[BY,List.drop_zero]
 rw[BY,List.take_of_length_le (by omega)]at h2
 conv=>rhs;rw[<-List.take_append_drop (13+DC (F s)) (F s).data.toList,h2,Fx]
def uM:bA:=ByteArray.mk (List.toArray [])
theorem QQ:∃e,e≠0/\GetPR uM=Ey e:=by
 rcases A6 uM with h|⟨k,g,b,_,hok,_,_,_,hk,_⟩
 ·exact h
 ·exfalso;have:Ct (An (F uM) 0 1)=0:=by
   have hd:(F uM).data.toList=[]++([0]++List.replicate 4095 0):=by rw[MB];show []++List.replicate 4096 0=_;rw[List.replicate_succ];rfl
   rw[CJ (A:=[]) hd rfl rfl];rfl
  rw[this]at hk;have:=hok.1;omega
theorem AGG (ks:List Int)(hl:ks.length<=9223372036854775807)(k:Int):∃i,Runs Fs 154 [aL (ks.map (Mir.D.int .i64)),aI k] [] (aI i) []/\(0<=i ↔ k∈ks):=by
 have hvc:Vc Fs c154.body (Af c154 [.o (.sl 1 (ks.map (Mir.D.int .i64))),.n (.int .i64 k)]) [] (Aq c154 λr=>∃i,r = .n (.int .i64 i)/\(0<=i ↔ k∈ks)):=by
  rewrite[zI,(zZ _ _ _).down];refine⟨λl v n i=>l=ks.map (Mir.D.int .i64)/\v=k/\n=ks.length/\0<=i/\i<=ks.length/\k∉ks.take i.toNat,λl v n i=>(n-i).toNat,⟨rfl,rfl,rfl,by simp,by omega,by omega,by simp⟩,?_⟩;rintro l v n i ⟨rfl,rfl,rfl,h0,h1,hno⟩ j;refine Ab (λh=>?_) (λh=>?_)
  ·have hlt:i.toNat<ks.length:=by omega
   refine⟨rfl,h0,.int .i64 ks[i.toNat],by rw[List.getElem?_map,gI hlt];rfl,_,rfl,Aa (λhe=>?_) (λhe=>?_)⟩
   ·have:v=ks[i.toNat]:=by simpa using he
    exact⟨i,rfl,λ_=>by rw[this];exact List.getElem_mem hlt,λ_=>h0⟩
   ·have:v≠ks[i.toNat]:=by simpa using he
    rw[Ac (i+1) (by omega)];refine⟨rfl,⟨rfl,rfl,rfl,by omega,by omega,?_⟩,by dsimp only;omega⟩;rw[show(i+1).toNat=i.toNat+1 by omega,List.take_add_one,gI hlt];intro hm;rcases List.mem_append.1 hm with hm|hm;·exact hno hm
    ·exact this (by simpa using hm)
  ·refine⟨-1,rfl,λh=>by omega,λhm=>?_⟩;rw[show i.toNat=ks.length by omega,List.take_length]at hno;exact absurd hm hno
 obtain⟨r,hr,i,rfl,hi⟩:=DG ABg rfl hvc;exact⟨i,hr,hi⟩
theorem AFR (ks:List Int)(hl:ks.length<=9223372036854775807)(k:Int):Runs Fs 120 [aL (ks.map (Mir.D.int .i64)),aI k] [] (aB (decide (k∈ks))) []:=by refine Ag (c:=c120) rfl rfl ?_;rewrite[ADr,(AAN _ _ _).down];obtain⟨i,hr,hi⟩:=AGG ks hl k;exact⟨_,hr,congrArg (λz=>AV.n (Mir.D.bool z)) (decide_eq_decide.2 hi)⟩
theorem KC (s:bA)(hs:(s.size:Int)<=9223372036854775807)(ks:List Int)(e:Int)(he:e≠0)(h:GetPR s=Ey e):Runs Fs 77 [aS s,aL (ks.map (Mir.D.int .i64))] [] (Ey e) []:=by refine Ag (c:=c77) rfl rfl ?_;rewrite[wF,(zE _ _ _).down];have g:=zN s hs;rw[h]at g;exact⟨_,_,_,_,g,Aa (λ_=>rfl) (λh=>absurd (by simpa using h) he)⟩
theorem O2 (s:bA)(hs:(s.size:Int)<=9223372036854775807)(ks:List Int)(hl:ks.length<=9223372036854775807)(k g:Int)(b:bA)(h:GetPR s = .tup [pg k g b,aI 0]):Runs Fs 77 [aS s,aL (ks.map (Mir.D.int .i64))] [] (if k∈ks then .tup [pg k g b,aI 0] else Ey 40) []:=by
 refine Ag (c:=c77) rfl rfl ?_;rewrite[wF,(zE _ _ _).down];have h21:=zN s hs;rw[h]at h21;refine⟨_,_,_,_,h21,Aa (λh=>by cases h) (λ_=>⟨_,AFR ks hl k,?_⟩)⟩;by_cases hk:k∈ks;·rw[decide_eq_true hk,if_pos hk];exact Aa (λh=>by cases h) (λ_=>rfl)
 ·rw[decide_eq_false hk,if_neg hk];exact Aa (λ_=>rfl) (λh=>by cases h)
end Go.Proofs.YtjmpnbbeplgchabGreatDoor.M
