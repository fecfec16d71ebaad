import Derived.Test.YtjmpnbbeplgchabGreatDoorR6FunB
import Derived.Test.YtjmpnbbeplgchabGreatDoorR6Last
import Derived.Test.YtjmpnbbeplgchabGreatDoorMirO
import Derived.Test.YtjmpnbbeplgchabGreatDoorR6L
namespace Go.Proofs.YtjmpnbbeplgchabGreatDoor.M
set_option linter.unusedVariables false
set_option linter.unusedSimpArgs false
open Go Go.Mir
abbrev Wr:=Int×bA×Unit
def bk (l:List bA):List Mir.D:=l.map .str
def pk (l:List Wr):List Mir.D:=l.map λp => .rcd [.int .i64 p.1,.str p.2.1]
def CK (b:List bA)(p:List Wr):AV := .agg [aL (bk b),.o (.sl 2 (pk p))]
theorem Cg (l:List bA):(bk l).length=l.length:=by simp[bk]
theorem Dq (l:List Wr):(pk l).length=l.length:=by simp[pk]
theorem Kf {l:List bA}{i:Nat}(h:i<l.length):(bk l)[i]?=some (.str l[i]):=by simp[bk,h]
theorem HF {l:List Wr}{i:Nat}(h:i<l.length):(pk l)[i]?=some (.rcd [.int .i64 l[i].1,.str l[i].2.1]):=by simp[pk,h]
def Tm (s:bA):Bool:=decide ((s.size:Int)<=4096)&&decide (TrimS s=s)
theorem p65 (s:bA)(hs:(s.size:Int)<=9223372036854775807):Runs Fs 65 [aS s] [] (aB (Tm s)) []:=by
 refine Ag (c:=c65) rfl rfl ?_;rewrite[AED,(AEq _ _).down];refine Ab (λh=>?_) (λh=>?_);·refine⟨_,Vs s hs,?_⟩;rw[Dn,Tm,decide_eq_true h];rfl
 ·rw[Tm,decide_eq_false h];rfl
theorem eG (l:List UInt8)(b:UInt8):tz (l++[b])=l++[b] ↔ b≠0:=by
 constructor;·intro h e;subst e;rw[IA]at h;have:=congrArg List.length h;have h2:=SZ l;simp at this;omega
 ·exact Kx l b
theorem NW (s:bA):TrimS s=s ↔ tz s.data.toList=s.data.toList:=
 ⟨λh=>by rw[<-AS,h],λh=>AE (by rw[AS,h])⟩
def Wm (n:Int)(p:Wr):Bool:=decide (0<=p.1)&&(decide (p.1<n)&&Tm p.2.1)
theorem p67 (n:Int)(p:Wr)(hs:(p.2.1.size:Int)<=9223372036854775807):Runs Fs 67 [.agg [aI p.1,aS p.2.1],.ptr 2300103 0] [(2300103,.box [aI n])] (aB (!(Wm n p))) [(2300103,.box [aI n])]:=by
 refine Ci (c:=c67) rfl rfl (by kernel_rfl) ?_;rewrite[yG,(ABc _ _ _ _).down];refine Ab (λh=>?_) (λh=>?_);·refine⟨?_,rfl⟩;rw[Wm,decide_eq_false (by omega:¬0<=p.1)];rfl
 ·refine Ab (λh2=>?_) (λh2=>?_);·refine⟨?_,rfl⟩;rw[Wm,decide_eq_false (by omega:¬p.1<n),decide_eq_true (by omega:0<=p.1)];rfl
  ·refine⟨_,p65 _ hs,?_,rfl⟩;rw[Wm,decide_eq_true (by omega:p.1<n),decide_eq_true (by omega:0<=p.1)];rfl
def PZ (n:Int)(l:List Wr):Bool:=l.any λp => !(Wm n p)
theorem AG3 (n:Int)(l:List Wr)(hl:(l.length:Int)<=9223372036854775807)(hs:∀p∈l,(p.2.1.size:Int)<=9223372036854775807):∃r:Int,decide (r>=0)=PZ n l /\
  Runs Fs 114 [.o (.sl 2 (pk l)),.fn 67 [.ptr 2300103 0]] [(2300103,.box [aI n])] (aI r) [(2300103,.box [aI n])]:=by
 have key:∃r H',Runs Fs 114 [.o (.sl 2 (pk l)),.fn 67 [.ptr 2300103 0]] [(2300103,.box [.n (.int .i64 n)])] r H'/\(H'=[(2300103,.box [.n (.int .i64 n)])]/\∃k:Int,r = .n (.int .i64 k)/\decide (k>=0)=PZ n l):=by
  refine DI (R:=λr H'=>H'=[(2300103,.box [.n (.int .i64 n)])]/\∃k:Int,r = .n (.int .i64 k)/\decide (k>=0)=PZ n l) AAK rfl (by kernel_rfl) ?_;rewrite[jZ,(jK _ _ _).down];refine⟨λi=>0<=i/\i<=l.length/\∀j:Nat,(j:Int)<i->∀h:j<l.length,Wm n l[j]=true,λi=>(l.length-i).toNat,⟨rfl,by omega,by omega,λj hj=>by omega⟩,?_⟩;rintro i ⟨h0,h1,hok⟩ _;rw[Dq];refine Ab (λh=>?_) (λh=>?_)
  ·have hi:i.toNat<l.length:=by omega
   refine⟨rfl,h0,_,HF hi,_,_,rfl,Nat.le_refl _,_,p67 n l[i.toNat] (hs _ (List.getElem_mem hi)),Aa (λhb=>?_) (λhb=>?_)⟩;·refine⟨rfl,i,rfl,?_⟩;rw[decide_eq_true (by omega:i>=0)];exact(List.any_eq_true.2 ⟨_,List.getElem_mem hi,hb⟩).symm
   ·rw[Ac _ (by omega)];refine⟨rfl,rfl,rfl,rfl,⟨by omega,by omega,λj hj hjl=>?_⟩,by dsimp only;omega⟩;by_cases hji:(j:Int)<i;·exact hok j hji hjl
    ·obtain rfl:j=i.toNat:=by omega
     simpa using hb
  ·refine⟨rfl,-1,rfl,?_⟩;rw[decide_eq_false (by omega)];refine(List.any_eq_false.2 λp hp=>?_).symm;obtain⟨j,hj,rfl⟩:=List.getElem_of_mem hp;rw[hok j (by omega) hj];simp
 obtain⟨r,H',hr,rfl,k,rfl,hk⟩:=key
 exact⟨k,hk,hr⟩
theorem p66 (n:Int)(l:List Wr)(hl:(l.length:Int)<=9223372036854775807)(hs:∀p∈l,(p.2.1.size:Int)<=9223372036854775807):
  Runs Fs 66 [.o (.sl 2 (pk l)),.fn 67 [.ptr 2300103 0]] [(2300103,.box [aI n])] (aB (PZ n l)) [(2300103,.box [aI n])]:=by
 refine Ci (c:=c66) rfl rfl (by kernel_rfl) ?_
 rewrite[ACr,(uY _ _ _).down]
 obtain⟨r,hr,h⟩:=AG3 n l hl hs
 exact⟨r,h,by rw[hr],rfl⟩
structure Fits (b:List bA) (p:List Wr):Prop where
 bl:b.length<=9223372036854775807
 pl:p.length<=9223372036854775807
 bs:∀s∈b,s.size<=9223372036854775807
 ps:∀x∈p,x.2.1.size<=9223372036854775807
abbrev devT:Ty := .st [.sl .str,.sl (.st [.int .i64,.str])]
theorem gP (x:devT.T)(h:devT.fit x):Fits x.1 x.2.1:=by obtain⟨⟨h1,h2⟩,⟨h3,h4⟩,_⟩:=h;have e:maxLen=9223372036854775807:=rfl;refine⟨e▸h1,e▸h3,λy hy=>e▸h2 y hy,λy hy=>?_⟩;have h5:y.2.1.size<=maxLen:=(h4 y hy).2.1;exact e▸h5
def Rt (b:List bA)(p:List Wr):Bool:=decide (1<=b.length/\b.length<=2048/\p.length<=2048)&&(b.all Tm&&p.all (Wm b.length))
theorem Fv {b:List bA}{p:List Wr}(h:¬(1<=b.length/\b.length<=2048/\p.length<=2048)):Rt b p=false:=by rw[Rt,decide_eq_false h];rfl
theorem iQ {b:List bA}{p:List Wr}{i:Nat}(hi:i<b.length)(h:Tm b[i]=false):Rt b p=false:=by rw[Rt];have:b.all Tm=false:=List.all_eq_false.2 ⟨_,List.getElem_mem hi,by rw[h];simp⟩;rw[this,Bool.false_and,Bool.and_false]
theorem T4 {b:List bA}{p:List Wr}(h:1<=b.length/\b.length<=2048/\p.length<=2048)(hb:∀j,∀h:j<b.length,Tm b[j]=true):Rt b p = !(PZ b.length p):=by
 have:b.all Tm=true:=List.all_eq_true.2 λx hx=>by obtain⟨j,hj,rfl⟩:=List.getElem_of_mem hx;exact hb j hj
 rw[Rt,decide_eq_true h,this,Bool.true_and,Bool.true_and,PZ,List.not_any_eq_all_not];simp
theorem uQ (b:List bA)(p:List Wr)(hf:Fits b p):Runs Fs 23 [CK b p] [] (aB (Rt b p)) []:=by
 refine Ag (c:=c23) rfl rfl ?_;rw[CK,AEp];rw[(AEd _ _ _).down,Cg,Dq];have hbl:=hf.bl;have hpl:=hf.pl;refine Ab (λh=>by rw[Fv (by omega)]) (λh=>?_);refine Ab (λh2=>by rw[Fv (by omega)]) (λh2=>?_);refine Ab (λh3=>by rw[Fv (by omega)]) (λh3=>?_);refine⟨λi=>0<=i/\i<=b.length/\∀j:Nat,(j:Int)<i->∀h:j<b.length,Tm b[j]=true,λi=>(b.length-i).toNat,⟨rfl,by omega,by omega,λj hj=>by omega⟩,?_⟩;rintro i ⟨h0,h1,hok⟩ _;refine Ab (λh=>?_) (λh=>?_)
 ·have hi:i.toNat<b.length:=by omega
  refine⟨rfl,h0,_,Kf hi,_,rfl,_,p65 _ (by have:=hf.bs _ (List.getElem_mem hi);omega),Aa (λhb=>?_) (λhb=>?_)⟩;·rw[iQ hi (by simpa using hb)]
  ·rw[Ac _ (by omega)];refine⟨rfl,rfl,rfl,rfl,rfl,⟨by omega,by omega,λj hj hjl=>?_⟩,by dsimp only;omega⟩;by_cases hji:(j:Int)<i;·exact hok j hji hjl
   ·obtain rfl:j=i.toNat:=by omega
    simpa using hb
 ·refine⟨_,p66 b.length p (by omega) (λx hx=>by have:=hf.ps x hx;omega),?_⟩;rw[T4 ⟨by omega,by omega,by omega⟩ λj hj=>hok j (by omega) hj]
def iT:bA:=⟨#[]⟩
def Lk (b:List bA)(p:List Wr)(b':List bA)(p':List Wr):Bool:=decide (b=b')&&decide (p=p')
theorem fJ (b:List bA)(p:List Wr):Lk b p b p=true:=by simp[Lk]
theorem AAQ {x y:Wr}:((x.1==y.1)&&((x.2.1.toList==y.2.1.toList)&&true))=decide (x=y):=by
 obtain⟨x1,x2,_⟩:=x;obtain⟨y1,y2,_⟩:=y;rw[Dn];rw[Bool.and_true];by_cases h1:x1=y1
 ·by_cases h2:x2=y2;·subst h1;subst h2;simp
  ·rw[decide_eq_false h2,decide_eq_false (λe=>h2 (by simpa using congrArg (λz:Wr=>z.2.1) e)),Bool.and_false]
 ·rw[show(x1==y1)=false from beq_eq_false_iff_ne.2 h1,Bool.false_and,decide_eq_false (λe=>h1 (congrArg (Prod.fst:Wr->Int) e))]
def IL (l:List UInt8)(k:Nat):UInt8:=(l[k]?).getD 0
def row (n:Nat)(f:Nat->UInt8):List UInt8:=(List.range n).map f
theorem Ky (n:Nat)(f:Nat->UInt8):(row n f).length=n:=by simp[row]
theorem Sf (n:Nat)(f:Nat->UInt8)(k:Nat):IL (row n f) k=if k<n then f k else 0:=by
 unfold IL row;rw[List.getElem?_map];by_cases h:k<n;·rw[List.getElem?_range h,if_pos h];rfl
 ·rw[List.getElem?_eq_none (by simpa using h),if_neg h];rfl
theorem Nv {n:Nat}{f g:Nat->UInt8}(h:∀k,k<n->f k=g k):row n f=row n g:=by unfold row;exact List.map_congr_left λk hk=>h k (List.mem_range.1 hk)
theorem pU (l m:List UInt8)(k:Nat):IL (l++m) k=if k<l.length then IL l k else IL m (k-l.length):=by unfold IL;rw[List.getElem?_append];split<;>rfl
theorem Xx (l:List UInt8)(n k:Nat):IL (l++List.replicate n 0) k=IL l k:=by
 rw[pU];split;·rfl
 ·rename_i h;have:IL l k=0:=by unfold IL;rw[List.getElem?_eq_none (by omega)];rfl
  rw[this];unfold IL;rw[List.getElem?_replicate];split<;>rfl
theorem PG (l:List UInt8)(n:Nat)(h:l.length<=n):l++List.replicate (n-l.length) 0=row n (IL l):=by
 refine List.ext_getElem? λk=>?_;unfold row;rw[List.getElem?_append,List.getElem?_map,List.getElem?_replicate];by_cases hk:k<l.length;·rw[if_pos hk,List.getElem?_range (by omega)];simp[IL,hk]
 ·rw[if_neg hk];by_cases hn:k<n;·rw[if_pos (by omega),List.getElem?_range hn];simp[IL,hk]
  ·rw[if_neg (by omega),List.getElem?_eq_none (by simpa using hn)];rfl
theorem WK (l:List UInt8)(n:Nat)(h:l.length<=n):tz (row n (IL l))=tz l:=by rw[<-PG l n h,Fx]
theorem gU (l:List UInt8)(k:Nat):IL (tz l) k=IL l k:=by
 obtain⟨n,hn,_⟩:=Er l.length l rfl
 conv=>rhs;rw[hn]
 rw[Xx]
theorem oZ {l m:List UInt8}(h:∀k,IL l k=IL m k):tz l=tz m:=by rw[<-WK l (l.length+m.length) (by omega),<-WK m (l.length+m.length) (by omega)];rw[Nv λk _=>h k]
def At (s:bA)(k:Nat):UInt8:=IL s.data.toList k
def Ce (l:List UInt8):bA:=⟨(tz l).toArray⟩
theorem D5 (l:List UInt8):(Ce l).data.toList=tz l:=by simp[Ce]
theorem H6 (l:List UInt8)(k:Nat):At (Ce l) k=IL l k:=by rw[At,D5,gU]
theorem Gy {l m:List UInt8}(h:∀k,IL l k=IL m k):Ce l=Ce m:=by rw[Ce,Ce,oZ h]
theorem Is (l:List UInt8):(Ce l).size<=l.length:=by have:=SZ l;rw[<-D5,Aj]at this;exact this
theorem BQ (s:bA):TrimS s=Ce s.data.toList:=AE (by rw[AS,D5])
theorem QD (l:List UInt8)(s:bA)(h:s.data.toList=l):TrimS s=Ce l:=by rw[BQ,h]
theorem FL {l:List UInt8}:TrimS (Ce l)=Ce l:=by rw[BQ,D5];exact Gy λk=>gU l k
theorem sR {s t:bA}(hs:TrimS s=s)(ht:TrimS t=t)(h:∀k,At s k=At t k):s=t:=by rw[<-hs,<-ht,BQ,BQ];exact Gy h
def bd (l:List UInt8):List Mir.D:=l.map λb => .int .u8 (b.toNat:Int)
theorem RQ (l:List UInt8):(bd l).length=l.length:=by simp[bd]
theorem ZC (l:List UInt8):List.all (bd l) Mir.D.isU8=true:=by simp[bd,Mir.D.isU8]
theorem ACW (l:List UInt8):List.map Mir.byteOf (bd l)=l:=by
 unfold bd;rw[List.map_map]
 conv=>rhs;rw[<-List.map_id l]
 refine List.map_congr_left λb _=>?_;simp only[Function.comp,Mir.byteOf,id];exact UInt8.ofNat_toNat
theorem qS (l m:List UInt8):bd l++bd m=bd (l++m):=by simp[bd]
theorem N5 (s:bA):bytesD s=bd s.data.toList:=rfl
theorem ZS (l:List UInt8):ByteArray.mk (List.toArray (List.map Mir.byteOf (bd l)))=⟨l.toArray⟩:=by rw[ACW]
def Gw (s:bA)(i:Nat):List UInt8:=row 512 λk=>At s (512*i+k)
def Jp (s:bA)(i:Int):bA:=if 0<=i/\i<=7 then Ce (Gw s i.toNat) else iT
def Hz (s:bA)(i:Nat):List UInt8:=(s.data.toList.take (512*(i+1))).drop (512*i)
theorem Zy (s:bA)(i:Nat):(Hz s i).length<=512/\∀k,IL (Hz s i) k=IL (Gw s i) k:=by
 refine⟨by simp[Hz];omega,λk=>?_⟩;rw[Gw,Sf];unfold Hz At IL;rw[List.getElem?_drop,List.getElem?_take];by_cases h:k<512;·rw[if_pos h,if_pos (by omega)]
 ·rw[if_neg h,if_neg (by omega)];rfl
theorem mmF (a b:Int):Cs false a b=min a b:=by unfold Cs;simp only[Bool.false_eq_true,if_false];split<;>omega
theorem AHW (s:bA)(i:Int)(h0:0<=i)(h1:i<=7):Runs Fs 209 [aL (bytesD s),aI i] [] (aS ⟨(Hz s i.toNat).toArray⟩) []:=by
 refine Ag (c:=c209) rfl rfl ?_;rw[AAT,AB6];rw[Ac (i+1) (by omega),Ac ((i+1)*512) (by omega),Ac (i*512) (by omega)];simp only[mmF];have hl:(bytesD s).length=s.data.toList.length:=RQ _;have e1:List.drop (min (i*512) ((bytesD s).length:Int)).toNat (List.take (min ((i+1)*512) ((bytesD s).length:Int)).toNat (bytesD s))=bd (Hz s i.toNat):=by
  rw[hl,N5,bd,bd,Hz,List.map_drop,List.map_take];generalize hL:List.map (λb:UInt8=>Mir.D.int .u8 (b.toNat:Int)) s.data.toList=L;have hLl:s.data.toList.length=L.length:=by rw[<-hL];simp
  rw[hLl];refine List.ext_getElem? λk=>?_;rw[List.getElem?_drop,List.getElem?_drop,List.getElem?_take,List.getElem?_take];by_cases hk:512*i.toNat+k<512*(i.toNat+1)/\512*i.toNat+k<L.length;·rw[if_pos (by omega),if_pos (by omega),show(min (i*512) (L.length:Int)).toNat=512*i.toNat by omega]
  ·have:∀(a b:Nat) (c:Nat),¬(b<a/\b<L.length)->(if b<a then L[b]? else none)=none:=λa b c h=>by
    split;·exact List.getElem?_eq_none (by omega)
    ·rfl
   rw[this _ _ 0 (by omega),this _ _ 0 (by omega)]
 rw[e1];refine⟨trivial,by omega,by omega,by omega,by omega,by omega,by omega,.inl trivial,ZC _,?_⟩;rw[ZS]
theorem ACt (s:bA)(i:Int)(hs:(s.size:Int)<=9223372036854775807):Runs Fs 183 [aS s,aI i] [] (aS (Jp s i)) []:=by
 refine Ag (c:=c183) rfl rfl ?_;rewrite[xK,(wX _ _ _).down];refine Ab (λh=>by rw[Jp,if_neg (by omega)];rfl) (λh=>?_);refine Ab (λh2=>by rw[Jp,if_neg (by omega)];rfl) (λh2=>?_);obtain⟨hl,hat⟩:=Zy s i.toNat;refine⟨_,AHW s i (by omega) (by omega),_,Vs _ ?_,?_⟩
 ·have e:(ByteArray.mk (Hz s i.toNat).toArray).size=(Hz s i.toNat).length:=by rw[<-Aj]
  rw[e];omega
 ·rw[Jp,if_pos (by omega)];exact congrArg (λz=>AV.n (Mir.D.str z)) ((QD (Hz s i.toNat) _ (by simp)).trans (Gy hat))
theorem Qo (s:bA)(i:Int):(Jp s i).size<=512:=by
 unfold Jp;split;·have:=Is (Gw s i.toNat);rw[Gw,Ky]at this;exact this
 ·decide
theorem Zi (s:bA)(i:Int)(h:0<=i/\i<=7):KZ (Jp s i) (512-(Jp s i).size:Int).toNat=⟨(Gw s i.toNat).toArray⟩:=by refine AE ?_;have hl:=Qo s i;rw[DB,show(512-((Jp s i).size:Int)).toNat=512-(Jp s i).data.toList.length by rw[Aj];omega,PG _ _ (by rw[Aj];exact hl)];simp only[List.toList_toArray];unfold Gw;refine Nv λk hk=>?_;have:=H6 (Gw s i.toNat) k;rw[Jp,if_pos h];rw[At]at this;rw[this,Gw,Sf,if_pos hk]
def bt (mask:Int)(i:Nat):Bool:=decide (mask.fdiv (2 ^ i) % 2=1)
def IU (old now:bA)(mask:Int)(n:Nat):List UInt8:=row n λk=>At (if bt mask (k / 512) then now else old) k
def Ix (old now:bA)(mask:Int):bA:=Ce (IU old now mask 4096)
theorem bY (x:Int):((wI (((BitVec.ofInt 64 x) &&& (BitVec.ofInt 64 1)).toNat:Int))==1)=decide (x % 2=1):=by
 have h:((BitVec.ofInt 64 x) &&& (BitVec.ofInt 64 1)).toNat=(x % 2).toNat:=by
  rw[BitVec.toNat_and,show(BitVec.ofInt 64 1).toNat=1 from rfl,Nat.and_one_is_mod,BitVec.toNat_ofInt];have:((2 ^ 64:Nat):Int)=18446744073709551616:=by decide
  rw[this];omega
 rw[h];have h2:x % 2=0\/x % 2=1:=by omega
 rcases h2 with h2|h2<;>rw[h2]<;>rfl
theorem eU (old now:bA)(mask:Int)(i:Nat):IU old now mask (512*i)++Gw (if bt mask i then now else old) i=IU old now mask (512*(i+1)):=by
 refine List.ext_getElem? λk=>?_;have g:∀(n:Nat) (f:Nat->UInt8) (k:Nat),(row n f)[k]?=if k<n then some (f k) else none:=λn f k=>by
  unfold row;rw[List.getElem?_map];by_cases h:k<n;·rw[List.getElem?_range h,if_pos h];rfl
  ·rw[List.getElem?_eq_none (by simpa using h),if_neg h];rfl
 unfold IU Gw;rw[List.getElem?_append,Ky,g,g,g];by_cases h1:k<512*i;·rw[if_pos h1,if_pos h1,if_pos (by omega:k<512*(i+1))]
 ·rw[if_neg h1];by_cases h2:k<512*(i+1);·rw[if_pos (by omega),if_pos h2,show k / 512=i by omega,show 512*i+(k-512*i)=k by omega]
  ·rw[if_neg (by omega),if_neg h2]
theorem TN (s:bA)(i:Int)(h:0<=i/\i<=7):Runs Fs 152 [aS (Jp s i),aI 512] [] (.tup [aS ⟨(Gw s i.toNat).toArray⟩,aI 0]) []:=by have hl:=Qo s i;have:=yK (Jp s i) 512 (by omega);rwa [Fm (by omega) (by omega),Zi s i h]at this
theorem Sw (s:bA)(i:Nat):bytesD ⟨(Gw s i).toArray⟩=bd (Gw s i):=by rw[N5]
theorem QC (s:bA)(i:Nat):(ByteArray.mk (Gw s i).toArray).size=512:=by rw[<-Aj];simp[Gw,Ky]
theorem ID (old now:bA)(mask:Int)(n:Nat):(IU old now mask n).length=n:=Ky _ _
theorem ACx (old now:bA)(mask:Int)(ho:(old.size:Int)<=9223372036854775807)(hn:(now.size:Int)<=9223372036854775807):
   Runs Fs 147 [aS old,aS now,aI mask] [] (aS (Ix old now mask)) []:=by
 refine Ag (c:=c147) rfl rfl ?_
 rewrite[zS,(ABI _ _ _ _).down]
 refine⟨λv i r=>v=r.1/\0<=i/\i<=8/\r.2=bd (IU old now mask (512*i.toNat)),λv i r=>(8-i).toNat,⟨rfl,rfl,by omega,by omega,rfl⟩,?_⟩
 rintro v i ⟨ver,els⟩ ⟨rfl,h0,h1,hels⟩ _
 dsimp only at hels
 subst hels
 refine Ab (λh3=>?_) (λh3=>?_)
 ·refine⟨_,ACt old i ho,h0,?_⟩
  have hmin:Min.min (Int.toNat i) (IntKind.bits .i64)=i.toNat:=by show Min.min (Int.toNat i) 64=i.toNat;omega
  rw[hmin,show IntKind.bits .i64=64 from rfl,bY,show decide (Int.fdiv mask (2 ^ i.toNat) % 2=1)=bt mask i.toNat from rfl]
  have hm:=eU old now mask i.toNat
  have tail:∀(t:bA),(if bt mask i.toNat then now else old)=t->(512*i.toNat+512<=140737488355328)/\bd (IU old now mask (512*i.toNat))++bytesD ⟨(Gw t i.toNat).toArray⟩=bd (IU old now mask (512*(i+1).toNat)):=λt ht=>by refine⟨by omega,?_⟩;rw[Sw,qS,<-ht,hm,show(i+1).toNat=i.toNat+1 by omega]
  refine Aa (λhb=>?_) (λhb=>?_)
  ·obtain⟨t1,t2⟩:=tail now (by rw[hb];rfl)
   refine⟨_,ACt now i hn,_,_,TN now i ⟨by omega,by omega⟩,⟨⟨rfl,rfl⟩,rfl⟩,?_,rfl,rfl,rfl,rfl,?_,?_⟩
   ·rw[RQ,ID,QC];exact t1
   ·rw[Ac (i+1) (by omega)]
    exact⟨rfl,by omega,by omega,t2⟩
   ·rw[Ac (i+1) (by omega)];dsimp only;omega
  ·obtain⟨t1,t2⟩:=tail old (by rw[hb];rfl)
   refine⟨_,_,TN old i ⟨by omega,by omega⟩,⟨⟨rfl,rfl⟩,rfl⟩,?_,rfl,rfl,rfl,rfl,?_,?_⟩
   ·rw[RQ,ID,QC];exact t1
   ·rw[Ac (i+1) (by omega)]
    exact⟨rfl,by omega,by omega,t2⟩
   ·rw[Ac (i+1) (by omega)];dsimp only;omega
 ·have e8:512*i.toNat=4096:=by omega
  have em:Ix old now mask=Ce (IU old now mask (512*i.toNat)):=by rw[e8,Ix]
  refine⟨rfl,.inl rfl,ZC _,_,Vs _ ?_,?_⟩
  ·have e:(ByteArray.mk (IU old now mask (512*i.toNat)).toArray).size=(IU old now mask (512*i.toNat)).length:=by rw[<-Aj]
   rw[ZS,e,ID];omega
  ·rw[ZS,em]
   exact congrArg (λz=>AV.n (Mir.D.str z)) (QD (IU old now mask (512*i.toNat)) _ (by simp))
theorem rJ (old now:bA)(mask:Int)(k:Nat):At (Ix old now mask) k=if k<4096 then At (if bt mask (k / 512) then now else old) k else 0:=by rw[Ix,H6,IU,Sf]
theorem PQ (old now:bA)(mask:Int):(Ix old now mask).size<=4096:=by have:=Is (IU old now mask 4096);rw[ID]at this;exact this
theorem Qm (old now:bA)(mask:Int):TrimS (Ix old now mask)=Ix old now mask:=FL
theorem nS (i:Nat)(hi:i<=7):bt 255 i=true:=by
 have hi':i=0\/i=1\/i=2\/i=3\/i=4\/i=5\/i=6\/i=7:=by omega
 rcases hi' with rfl|rfl|rfl|rfl|rfl|rfl|rfl|rfl<;>rfl
def ml (ms:List Int):List Mir.D:=ms.map (.int .i64)
theorem tN (ms:List Int):(ml ms).length=ms.length:=by simp[ml]
theorem vM {ms:List Int}{i:Nat}(h:i<ms.length):(ml ms)[i]?=some (.int .i64 ms[i]):=by simp[ml,h]
def mk (all:Bool)(ms:List Int)(k:Nat):Int:=if all then 255 else (ms[k]?).getD 0
def Il (f:Nat->Int)(b:List bA)(p:List Wr):Nat->List bA
 | 0=>b
 | i+1=>match p[i]? with
   | some w=>(Il f b p i).set w.1.toNat (Ix (((Il f b p i)[w.1.toNat]?).getD iT) w.2.1 (f i))
   | none=>Il f b p i
theorem Bf (f:Nat->Int)(b:List bA)(p:List Wr):∀i,(Il f b p i).length=b.length
 | 0=>rfl
 | i+1=>by
  rw[Il];split;·rw[List.length_set,Bf]
  ·exact Bf f b p i
theorem Mo (f:Nat->Int)(b:List bA)(p:List Wr)(i:Nat)(h:i<p.length)(hb:p[i].1.toNat<b.length):
  Il f b p (i+1)=(Il f b p i).set p[i].1.toNat (Ix ((Il f b p i)[p[i].1.toNat]'(by rw[Bf];exact hb)) p[i].2.1 (f i)):=by
 rw[Il,gI h]
 simp only
 rw[gI (by rw[Bf];exact hb)]
 rfl
theorem YI (l:List bA)(i:Nat)(s:bA):(bk l).set i (.str s)=bk (l.set i s):=by simp[bk,List.map_set]
theorem KG (P:bA->Prop)(hm:∀a b m,P (Ix a b m))(f:Nat->Int)(b:List bA)(p:List Wr)(h:∀s∈b,P s):∀i,∀s∈Il f b p i,P s
 | 0=>h
 | i+1=>by
  intro s hs;rw[Il]at hs;split at hs
  ·rcases List.mem_or_eq_of_mem_set hs with hs|rfl;·exact KG P hm f b p h i s hs
   ·exact hm _ _ _
  ·exact KG P hm f b p h i s hs
structure Ok (b:List bA) (p:List Wr):Prop where
 bl:b.length<=2048
 pl:p.length<=2048
 bs:∀s∈b,(s.size:Int)<=9223372036854775807
 ps:∀w∈p,(w.2.1.size:Int)<=9223372036854775807
 pb:∀w∈p,0<=w.1/\w.1<b.length
theorem iR {b:List bA}{p:List Wr}(hf:Fits b p)(h:Rt b p=true):Ok b p:=by rw[Rt,Bool.and_eq_true,decide_eq_true_iff,Bool.and_eq_true]at h;obtain⟨⟨h1,h2,h3⟩,h4,h5⟩:=h;refine⟨h2,h3,λs hs=>by have:=hf.bs s hs;omega,λw hw=>by have:=hf.ps w hw;omega,λw hw=>?_⟩;have:=List.all_eq_true.1 h5 w hw;rw[Wm,Bool.and_eq_true,Bool.and_eq_true,decide_eq_true_iff,decide_eq_true_iff]at this;omega
theorem rS (a b:bA)(m:Int):((Ix a b m).size:Int)<=9223372036854775807:=by have:=PQ a b m;omega
theorem Yt {b:List bA}{p:List Wr}(h:Ok b p)(f:Nat->Int)(i:Nat):∀s∈Il f b p i,(s.size:Int)<=9223372036854775807:=
 KG (λs=>(s.size:Int)<=9223372036854775807) rS f b p h.bs i
theorem AE8 (k:Int)(hk:0<=k)(ms:List Int):Runs Fs 111 [aI k,.ptr 6200001 0] [(6200001,.box [aL (ml ms)])] (aI (mk false ms k.toNat)) [(6200001,.box [aL (ml ms)])]:=by
 refine Ci (c:=c111) rfl rfl (by kernel_rfl) ?_;rw[qF,(kR _ _ _).down,tN];refine Ab (λh=>?_) (λh=>?_)
 ·have hi:k.toNat<ms.length:=by omega
  refine⟨rfl,hk,_,vM hi,_,rfl,?_,rfl⟩;rw[mk,if_neg (by simp),gI hi];rfl
 ·refine⟨?_,rfl⟩;rw[mk,if_neg (by simp),List.getElem?_eq_none (by omega)];rfl
theorem Tu (b:List bA)(h:b.length<=2048):Runs Fs 124 [aL (bk b)] [] (.row 12400001 0) [(12400001,.row false false 0 9 1 (bk b))]:=
 AR HB _ (by rw[Cg];omega)
theorem ABX (b:List bA)(p:List Wr)(ms:List Int)(h:Ok b p):
   Runs Fs 110 [CK b p,.fn 111 [.ptr 6200001 0]] [(6200001,.box [aL (ml ms)])] (CK (Il (mk false ms) b p p.length) []) [(6200001,.box [aL (ml ms)])]:=by
 refine Ci (c:=c110) rfl rfl (by kernel_rfl) ?_
 rw[CK,sC,(jU _ _ _ _).down,Dq]
 have hpl:=h.pl
 refine⟨_,_,Tu b h.bl,λi r=>0<=i/\i<=p.length/\r.1=0/\r.2=bk (Il (mk false ms) b p i.toNat),λi r=>(p.length-i).toNat,⟨rfl,by omega,by omega,rfl,rfl⟩,?_⟩
 rintro i r ⟨h0,h1,hr1,hr2⟩ _
 refine Ab (λhlt=>?_) (λhge=>?_)
 ·have hi:i.toNat<p.length:=by omega
  obtain⟨hb0,hb1⟩:=h.pb _ (List.getElem_mem hi)
  have hbi:p[i.toNat].1.toNat<(Il (mk false ms) b p i.toNat).length:=by rw[Bf];omega
  refine⟨rfl,h0,_,HF hi,_,_,rfl,Nat.le_refl _,⟨hr1,rfl⟩,hb0,by rw[hr2,Cg,Bf];exact hb1,⟨hr1.symm,rfl⟩,_,by rw[hr2];exact Kf hbi,_,rfl,_,AE8 i h0 ms,_,
   ACx _ _ _ (Yt h _ _ _ (List.getElem_mem hbi)) (h.ps _ (List.getElem_mem hi)),⟨hr1,rfl⟩,hb0,by rw[hr2,Cg,Bf];exact hb1,⟨⟨⟨hr1.symm,rfl⟩,rfl⟩,rfl⟩,by rw[hr2,Cg];exact hbi,?_⟩
  repeat (refine And.intro rfl ?_)
  rw[Ac _ (by omega),hr2,YI]
  refine⟨⟨by omega,by omega,hr1,?_⟩,by dsimp only;omega⟩
  rw[show(i+1).toNat=i.toNat+1 by omega,Mo _ _ _ _ hi (by omega)]
 ·refine⟨hr1,?_,rfl⟩
  rw[hr2,show i.toNat=p.length by omega]
  rfl
def GU (b:List bA)(p:List Wr)(ms:List Int):AV:=if Rt b p then .tup [CK (Il (mk false ms) b p p.length) [],aI 0] else .tup [CK [] [],aI 1]
theorem p62 (b:List bA)(p:List Wr)(ms:List Int)(hf:Fits b p):Runs Fs 62 [CK b p,aL (ml ms)] [] (GU b p ms) []:=by
 refine Ag (c:=c62) rfl rfl ?_;rewrite[CK,AIP,(AEU _ _ _ _).down];refine⟨_,uQ b p hf,Aa (λh=>?_) (λh=>?_)⟩;·rw[GU,if_neg (by simpa using h)];rfl
 ·have h:Rt b p=true:=by simpa using h
  refine⟨_,_,ABX b p ms (iR hf h),?_⟩;rw[GU,if_pos h];rfl
theorem Ra {s:bA}(h1:TrimS s=s)(h2:(s.size:Int)<=4096):Tm s=true:=by rw[Tm,decide_eq_true h1,decide_eq_true h2];rfl
theorem sQ (a b:bA)(m:Int):Tm (Ix a b m)=true:=Ra (Qm a b m) (by have:=PQ a b m;omega)
theorem GS {b:List bA}{p:List Wr}(h:Rt b p=true):(∀s∈b,Tm s=true)/\(1<=b.length/\b.length<=2048/\p.length<=2048)/\∀w∈p,Wm b.length w=true:=by rw[Rt,Bool.and_eq_true,decide_eq_true_iff,Bool.and_eq_true]at h;exact⟨λs hs=>List.all_eq_true.1 h.2.1 s hs,h.1,λw hw=>List.all_eq_true.1 h.2.2 w hw⟩
theorem XF {b:List bA}{p:List Wr}(h:1<=b.length/\b.length<=2048/\p.length<=2048)(hb:∀s∈b,Tm s=true)(hp:∀w∈p,Wm b.length w=true):Rt b p=true:=by rw[Rt,decide_eq_true h,List.all_eq_true.2 hb,List.all_eq_true.2 hp];rfl
theorem Rk {b:List bA}{p:List Wr}(h:Rt b p=true)(f:Nat->Int)(i:Nat):Rt (Il f b p i) []=true:=by obtain⟨h1,h2,h3⟩:=GS h;exact XF (by rw[Bf];exact⟨h2.1,h2.2.1,by simp⟩) (KG (λs=>Tm s=true) sQ f b p h1 i) (λw hw=>by cases hw)
abbrev Ch:=bA×bA×Bool×Unit
def chD (c:Ch):Mir.D := .rcd [.str c.1,.str c.2.1,.bool c.2.2.1]
def uB (c:Ch):AV := .agg [aS c.1,aS c.2.1,aB c.2.2.1]
def ck (l:List Ch):List Mir.D:=l.map chD
theorem Jz (l:List Ch):(ck l).length=l.length:=by simp[ck]
theorem Ye {l:List Ch}{i:Nat}(h:i<l.length):(ck l)[i]?=some (chD l[i]):=by simp[ck,h]
def EF (c:Ch):Bool:=decide (1<=c.1.size/\c.1.size<=32/\c.2.1.size<=200)&&(!c.2.2.1||decide (c.2.1=Ar))
theorem Pj {c:Ch}(h:¬(1<=c.1.size/\c.1.size<=32/\c.2.1.size<=200)):EF c=false:=by rw[EF,decide_eq_false h];rfl
def tX (c:Ch):List UInt8:=(if c.2.2.1 then [1] else [0])++(Cj c.1.size 2++c.1.data.toList)++(if c.2.2.1 then [] else Cj c.2.1.size 2++c.2.1.data.toList)
def CG (l:List Ch)(i:Nat):List UInt8:=Cj l.length 1++((l.take i).map tX).flatten
def P5 (l:List Ch):List UInt8:=CG l l.length
theorem J3 (l:List Ch)(i:Nat)(h:i<l.length):CG l (i+1)=CG l i++tX l[i]:=by rw[CG,CG,List.take_add_one,gI h];simp only[List.map_append,List.flatten_append,Option.toList,List.map_cons,List.map_nil,List.flatten_cons,List.flatten_nil,List.append_nil,List.append_assoc]
theorem UH (l:List Ch){i j:Nat}(h:i<=j):(CG l i).length<=(CG l j).length:=by
 induction j with
 | zero=>rw[show i=0 by omega];exact Nat.le_refl _
 | succ j ih=>
  by_cases hi:i=j+1;·rw[hi];exact Nat.le_refl _
  ·refine Nat.le_trans (ih (by omega)) ?_;by_cases hj:j<l.length;·rw[J3 l j hj,List.length_append];omega
   ·rw[CG,CG,List.take_of_length_le (by omega),List.take_of_length_le (by omega)];exact Nat.le_refl _
def IP (l:List UInt8):bA:=⟨l.toArray⟩
theorem Ec (l:List UInt8):(IP l).data.toList=l:=by simp[IP]
theorem Ji (l:List UInt8):(IP l).size=l.length:=by rw[<-Aj,Ec]
def J0 (l:List Ch):AV:=if l.any (λc => !EF c) then Qc 1 else if 255<l.length then Qc 2 else if 480<(P5 l).length then Qc 2 else .tup [aS (IP (P5 l)),aI 0]
theorem SF {c:Ch}(h:EF c=true):1<=c.1.size/\c.1.size<=32/\c.2.1.size<=200:=by rw[EF,Bool.and_eq_true]at h;exact of_decide_eq_true h.1
theorem IV {s:bA}(h:s.size<=65535):J4 s = .tup [aS (BR s),aI 0]:=by rw[J4,if_neg (by omega)]
theorem XM (o:List UInt8)(c:Ch)(h:c.2.2.1=true):Mc [IP o,ByteArray.mk (List.toArray (List.map Mir.byteOf [(Mir.D.int .u8 1)])),BR c.1]=IP (o++tX c):=by refine AE ?_;rw[El,Ec];simp only[List.map_cons,List.map_nil,List.flatten_cons,List.flatten_nil,List.append_nil,Ec,CB,tX,h,if_true];simp[Mir.byteOf]
theorem VP (o:List UInt8)(c:Ch)(h:c.2.2.1=false):Mc [IP o,ByteArray.mk (List.toArray (List.map Mir.byteOf [(Mir.D.int .u8 0)])),BR c.1,BR c.2.1]=IP (o++tX c):=by refine AE ?_;rw[El,Ec];simp only[List.map_cons,List.map_nil,List.flatten_cons,List.flatten_nil,List.append_nil,Ec,CB,tX,h];simp[Mir.byteOf]
theorem UR (n:Int):BZ (be n 1)=IP (Cj n 1):=AE (by rw[C3,Ec,DO])
def RX (no:Int)(body:bA):bA:=Mc [BZ (be no 1),body]
def Nb (gen no:Int)(body:bA):AV:=
 if gen<1\/1099511627776<gen\/no<0\/7<no then Qc 1 else if 480<body.size then Qc 2 else .tup [aS (Cq 5 gen (RX no body)),aI 0]
theorem M4 (no:Int)(body:bA):(RX no body).size=1+body.size:=by rw[RX,Ev];simp only[Da,Bo,C8];omega
theorem Iu {gen no:Int}{body:bA}(h:gen<1\/1099511627776<gen\/no<0\/7<no):Nb gen no body=Qc 1:=if_pos h
def Xg (p:AV)(gen:Int):Int×bA×Int:=
 match p with
 | .tup [.agg [.n (.int _ k),.n (.int _ g),.n (.str b)],.n (.int _ e)]=>
   if e≠0 then (0,Ar,e) else if k≠5 then (0,Ar,40) else if g≠gen\/b.size<1\/481<b.size\/7<Ct (An b 0 1) then (0,Ar,4) else (Ct (An b 0 1),b.extract 1 b.size,0)
 | _=>(0,Ar,0)
def tri (x:Int×bA×Int):AV := .tup [aI x.1,aS x.2.1,aI x.2.2]
def E0 (s:bA)(gen:Int):Int×bA×Int:=Xg (GetPR s) gen
theorem Lo {e:Int}(he:e≠0)(gen:Int):Xg (Ey e) gen=(0,Ar,e):=by simp only[Xg,Ey,pg,if_pos he]
theorem T3 (k g:Int)(b:bA)(gen:Int):Xg (.tup [pg k g b,aI 0]) gen=if k≠5 then (0,Ar,40) else if g≠gen\/b.size<1\/481<b.size\/7<Ct (An b 0 1) then (0,Ar,4) else (Ct (An b 0 1),b.extract 1 b.size,0):=by simp only[Xg,pg];rw[if_neg (by simp)]
theorem Sg {b:bA}(h:1<=b.size):HZ b 0 1 = .tup [aI (Ct (An b 0 1)),aI 1,aI 0]:=A9 (by omega) (by omega)
theorem p80 (s:bA)(hs:(s.size:Int)<=9223372036854775807)(gen:Int):Runs Fs 80 [aS s,aI gen] [] (tri (E0 s gen)) []:=by
 refine Ag (c:=c80) rfl rfl ?_;rewrite[AG5,(AGA _ _ _).down];rw[E0];rcases A6 s with⟨e,he,h⟩|⟨k,g,b,h,hok,_⟩
 ·have g:=KC s hs [5] e he h;rw[h,Lo he];refine⟨rfl,_,_,_,_,g,Aa (λ_=>rfl) (λh=>absurd (by simpa using h) he)⟩
 ·have h53:=O2 s hs [5] (by simp) k g b h;rw[h,T3];by_cases hk:k=5
  ·rw[if_pos (by simp[hk])]at h53;rw[if_neg (by simp[hk])];refine⟨rfl,_,_,_,_,h53,Aa (λh=>by cases h) (λ_=>?_)⟩;obtain⟨_,_,_,_,hb⟩:=hok;have h54:=gW b (by omega) 0 1;by_cases h1:b.size<1;·rw[Cb (by omega) (by omega)]at h54;rw[if_pos (.inr (.inl h1))];exact⟨_,_,_,h54,Aa (λ_=>rfl) (λh=>by cases h)⟩
   ·rw[Sg (by omega)]at h54;refine⟨_,_,_,h54,Aa (λh=>by cases h) (λ_=>?_)⟩;refine Aa (λhg=>by rw[if_pos (.inl (by simpa using hg))];rfl) (λhg=>?_);rw[Ac _ (by omega)];refine Ab (λhz=>by rw[if_pos (.inr (.inr (.inl (by omega))))];rfl) (λhz=>?_);refine Ab (λhn=>by rw[if_pos (.inr (.inr (.inr (by omega))))];rfl) (λhn=>?_);have hg:g=gen:=by simpa using hg
    rw[if_neg (by omega)];exact⟨by omega,by omega,rfl⟩
  ·rw[if_neg (by simp[hk])]at h53;rw[if_pos hk];exact⟨rfl,_,_,_,_,h53,Aa (λ_=>rfl) (λh=>by cases h)⟩
theorem p68 (s:bA)(hs:(s.size:Int)<=9223372036854775807):Runs Fs 68 [.n (.str s)] [] (.n (.bool (Tm s))) []:=by
 refine Ag (c:=c68) rfl rfl ?_;rewrite[AJK,(AHO _ _).down];refine Ab (λh=>?_) (λh=>?_)
 ·refine Aa (λh0=>?_) (λh0=>?_)
  ·have h0:s.size=0:=by have:=beq_iff_eq.1 h0;omega
   have:s.data.toList=[]:=List.length_eq_zero_iff.1 (by rw[Aj];exact h0);rw[Tm,decide_eq_true h,decide_eq_true ((NW s).2 (by rw[this,X9]))];rfl
  ·have h0:s.size≠0:=λe=>by rw[e]at h0;simp at h0
   rw[Ac _ (by omega)];have hlt:((s.size:Int)-1).toNat<s.data.toList.length:=by rw[Aj];omega
   refine⟨by omega,_,gI hlt,?_⟩;rw[Tm,decide_eq_true h,Bool.true_and];congr 2;rw[Bool.eq_iff_iff,decide_eq_true_iff,bne_iff_ne,NW];have hsp:∃r,s.data.toList=r++[s.data.toList[((s.size:Int)-1).toNat]]:=by have:=List.take_add_one (l:=s.data.toList) (i:=((s.size:Int)-1).toNat);rw[gI hlt,List.take_of_length_le (by rw[Aj];omega)]at this;exact⟨_,this⟩
   obtain⟨r,hsp⟩:=hsp;generalize s.data.toList[((s.size:Int)-1).toNat]=b at hsp |-;rw[hsp,eG];constructor;·intro h e;subst e;exact h rfl
   ·intro h e;refine h (UInt8.toNat_inj.1 ?_);have:(0:UInt8).toNat=0:=rfl;omega
 ·rw[Tm,decide_eq_false h];rfl
theorem p26 (b:List bA)(p:List Wr)(hf:Fits b p):Runs Fs 26 [CK b p] [] (aB (Rt b p)) []:=by
 refine Ag (c:=c26) rfl rfl ?_;rw[CK,AIv];rw[(AFW _ _ _).down,Cg,Dq];have hbl:=hf.bl;have hpl:=hf.pl;refine Ab (λh=>by rw[Fv (by omega)]) (λh=>?_);refine Ab (λh2=>by rw[Fv (by omega)]) (λh2=>?_);refine Ab (λh3=>by rw[Fv (by omega)]) (λh3=>?_);refine⟨λi=>0<=i/\i<=b.length/\∀j:Nat,(j:Int)<i->∀h:j<b.length,Tm b[j]=true,λi=>(b.length-i).toNat,⟨rfl,by omega,by omega,λj hj=>by omega⟩,?_⟩;rintro i ⟨h0,h1,hok⟩ _;refine Ab (λh=>?_) (λh=>?_)
 ·have hi:i.toNat<b.length:=by omega
  refine⟨rfl,h0,_,Kf hi,_,rfl,_,p68 _ (by have:=hf.bs _ (List.getElem_mem hi);omega),Aa (λhb=>?_) (λhb=>?_)⟩;·rw[iQ hi (by simpa using hb)]
  ·rw[Ac _ (by omega)];refine⟨rfl,rfl,rfl,rfl,rfl,⟨by omega,by omega,λj hj hjl=>?_⟩,by dsimp only;omega⟩;by_cases hji:(j:Int)<i;·exact hok j hji hjl
   ·obtain rfl:j=i.toNat:=by omega
    simpa using hb
 ·have hgood:=T4 (b:=b) (p:=p) ⟨by omega,by omega,by omega⟩ λj hj=>hok j (by omega) hj;refine⟨λi=>0<=i/\i<=p.length/\∀j:Nat,(j:Int)<i->∀h:j<p.length,Wm b.length p[j]=true,λi=>(p.length-i).toNat,⟨rfl,by omega,by omega,λj hj=>by omega⟩,?_⟩;rintro i ⟨h0,h1,hok⟩ _;refine Ab (λh=>?_) (λh=>?_)
  ·have hi:i.toNat<p.length:=by omega
   have bad:Wm b.length p[i.toNat]=false->Rt b p=false:=λhb=>by rw[hgood,PZ];have:(p.any λx => !(Wm b.length x))=true:=List.any_eq_true.2 ⟨_,List.getElem_mem hi,by rw[hb];rfl⟩;rw[this];rfl
   refine⟨rfl,h0,_,HF hi,_,_,rfl,Nat.le_refl _,?_⟩;refine Ab (λh=>?_) (λh=>?_);·rw[bad (by rw[Wm,decide_eq_false (by omega)];rfl)]
   refine Ab (λh2=>?_) (λh2=>?_);·rw[bad (by rw[Wm,decide_eq_false (by omega:¬p[i.toNat].1<(b.length:Int)),Bool.false_and,Bool.and_false])]
   refine⟨_,p68 _ (by have:=hf.ps _ (List.getElem_mem hi);omega),Aa (λhb=>?_) (λhb=>?_)⟩;·rw[bad (by rw[Wm,show Tm p[i.toNat].2.1=false by simpa using hb,Bool.and_false,Bool.and_false])]
   ·rw[Ac _ (by omega)];refine⟨rfl,rfl,rfl,rfl,⟨by omega,by omega,λj hj hjl=>?_⟩,by dsimp only;omega⟩;by_cases hji:(j:Int)<i;·exact hok j hji hjl
    ·obtain rfl:j=i.toNat:=by omega
     rw[Wm,decide_eq_true (by omega:(0:Int)<=p[i.toNat].1),decide_eq_true (by omega:p[i.toNat].1<(b.length:Int)),Bool.true_and,Bool.true_and];simpa using hb
  ·rw[hgood,PZ];have:(p.any λx => !(Wm b.length x))=false:=List.any_eq_false.2 λx hx=>by obtain⟨j,hj,rfl⟩:=List.getElem_of_mem hx;rw[hok j (by omega) hj];simp
   rw[this];rfl
theorem p97 (b:List bA)(p:List Wr)(b':List bA)(p':List Wr)(hf:Fits b p)(hf':Fits b' p'):Runs Fs 97 [CK b p,CK b' p'] [] (aB (Lk b p b' p')) []:=by
 refine Ag (c:=c97) rfl rfl ?_;rw[CK,CK,AIM,(AI2 _ _ _ _ _).down];rw[Cg b,Cg b',Dq p,Dq p'];have hbl:=hf.bl;have hpl:=hf.pl;have no:¬(b=b'/\p=p')->AV.n (Mir.D.bool false)=AV.n (Mir.D.bool (Lk b p b' p')):=λh=>by rw[Lk,<-Bool.decide_and,decide_eq_false h]
 refine Aa (λh=>no λe=>by rw[e.1]at h;simp at h) (λh=>?_);refine Aa (λh2=>no λe=>by rw[e.2]at h2;simp at h2) (λh2=>?_);have e1:b.length=b'.length:=by have:=bne_eq_false_iff_eq.1 h;omega
 have e2:p.length=p'.length:=by have:=bne_eq_false_iff_eq.1 h2;omega
 refine⟨λi=>0<=i/\i<=b.length/\∀j:Nat,(j:Int)<i->b[j]?=b'[j]?,λi=>(b.length-i).toNat,⟨rfl,by omega,by omega,λj hj=>by omega⟩,?_⟩;rintro i ⟨h0,h1,hok⟩ _;refine Ab (λh=>?_) (λh=>?_)
 ·have hi:i.toNat<b.length:=by omega
  have hi':i.toNat<b'.length:=by omega
  refine⟨rfl,h0,_,Kf hi,_,rfl,rfl,h0,_,Kf hi',_,rfl,GL (λhne=>no λe=>hne ?_) (λhe=>?_)⟩;·have:=e.1;subst this;rfl
  ·rw[Ac _ (by omega)];refine⟨rfl,rfl,rfl,rfl,⟨by omega,by omega,λj hj=>?_⟩,by dsimp only;omega⟩;by_cases hji:(j:Int)<i;·exact hok j hji
   ·obtain rfl:j=i.toNat:=by omega
    rw[gI hi,gI hi',he]
 ·have hb:b=b':=List.ext_getElem? λj=>by
   by_cases hj:(j:Int)<i;·exact hok j hj
   ·rw[List.getElem?_eq_none (by omega),List.getElem?_eq_none (by omega)]
  refine⟨λi=>0<=i/\i<=p.length/\∀j:Nat,(j:Int)<i->p[j]?=p'[j]?,λi=>(p.length-i).toNat,⟨rfl,by omega,by omega,λj hj=>by omega⟩,?_⟩;rintro i ⟨h0,h1,hok⟩ _;refine Ab (λh=>?_) (λh=>?_)
  ·have hi:i.toNat<p.length:=by omega
   have hi':i.toNat<p'.length:=by omega
   refine⟨rfl,h0,_,HF hi,_,_,rfl,Nat.le_refl _,rfl,h0,_,HF hi',_,_,rfl,Nat.le_refl _,?_⟩;rw[AAQ];refine Aa (λhne=>no λe=>?_) (λhe=>?_);·have:=e.2;subst this;simp at hne
   ·rw[Ac _ (by omega)];have he:p[i.toNat]=p'[i.toNat]:=by simpa using he
    refine⟨rfl,rfl,rfl,rfl,⟨by omega,by omega,λj hj=>?_⟩,by dsimp only;omega⟩;by_cases hji:(j:Int)<i;·exact hok j hji
    ·obtain rfl:j=i.toNat:=by omega
     rw[gI hi,gI hi',he]
  ·have hp:p=p':=List.ext_getElem? λj=>by
    by_cases hj:(j:Int)<i;·exact hok j hj
    ·rw[List.getElem?_eq_none (by omega),List.getElem?_eq_none (by omega)]
   rw[Lk,decide_eq_true hb,decide_eq_true hp];rfl
theorem AJz (k:Int):Runs Fs 118 [aI k] [] (aI 255) []:=by refine Ag (c:=c118) rfl rfl ?_;rw[vS];exact rfl
theorem zA (b:List bA)(p:List Wr)(h:Ok b p):Runs Fs 110 [CK b p,.fn 118 []] [] (CK (Il (λ_=>255) b p p.length) []) []:=by
 refine Ag (c:=c110) rfl rfl ?_;rw[CK,kW,(pB _ _ _).down,Dq];have hpl:=h.pl;refine⟨_,_,Tu b h.bl,λi r=>0<=i/\i<=p.length/\r.1=0/\r.2=bk (Il (λ_=>255) b p i.toNat),λi r=>(p.length-i).toNat,⟨rfl,by omega,by omega,rfl,rfl⟩,?_⟩;rintro i r ⟨h0,h1,hr1,hr2⟩ _;refine Ab (λhlt=>?_) (λhge=>?_)
 ·have hi:i.toNat<p.length:=by omega
  obtain⟨hb0,hb1⟩:=h.pb _ (List.getElem_mem hi);have hbi:p[i.toNat].1.toNat<(Il (λ_=>255) b p i.toNat).length:=by rw[Bf];omega
  refine⟨rfl,h0,_,HF hi,_,_,rfl,Nat.le_refl _,⟨hr1,rfl⟩,hb0,by rw[hr2,Cg,Bf];exact hb1,⟨hr1.symm,rfl⟩,_,by rw[hr2];exact Kf hbi,_,rfl,_,AJz i,_,
   ACx _ _ _ (Yt h _ _ _ (List.getElem_mem hbi)) (h.ps _ (List.getElem_mem hi)),⟨hr1,rfl⟩,hb0,by rw[hr2,Cg,Bf];exact hb1,⟨⟨⟨hr1.symm,rfl⟩,rfl⟩,rfl⟩,by rw[hr2,Cg];exact hbi,?_⟩
  repeat (refine And.intro rfl ?_)
  rw[Ac _ (by omega),hr2,YI];refine⟨⟨by omega,by omega,hr1,?_⟩,by dsimp only;omega⟩;rw[show(i+1).toNat=i.toNat+1 by omega,Mo _ _ _ _ hi (by omega)]
 ·refine⟨hr1,?_⟩;rw[hr2,show i.toNat=p.length by omega];rfl
theorem dS {s:bA}{k:Nat}(h:s.size<=k):At s k=0:=by rw[At,IL,List.getElem?_eq_none (by rw[Aj];exact h)];rfl
end Go.Proofs.YtjmpnbbeplgchabGreatDoor.M
