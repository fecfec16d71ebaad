import Derived.Test.YtegndijbpiccgaaGreatDoorR5Txt
import Derived.Test.YtegndijbpiccgaaGreatDoorMirO
namespace Go.Proofs.YtegndijbpiccgaaGreatDoor.M
set_option linter.unusedVariables false
set_option linter.unusedSimpArgs false
open Go Go.Mir
abbrev Wr:=Int×bA×Unit
def bk (l:List bA):List Mir.D:=l.map .str
def pk (l:List Wr):List Mir.D:=l.map λp => .rcd [.int .i64 p.1,.str p.2.1]
def CO (b:List bA)(p:List Wr):AV := .agg [aL (bk b),.o (.sl 2 (pk p))]
theorem CL (l:List bA):(bk l).length=l.length:=by simp[bk]
theorem EK (l:List Wr):(pk l).length=l.length:=by simp[pk]
theorem MD {l:List bA}{i:Nat}(h:i<l.length):(bk l)[i]?=some (.str l[i]):=by simp[bk,h]
theorem I1 {l:List Wr}{i:Nat}(h:i<l.length):(pk l)[i]?=some (.rcd [.int .i64 l[i].1,.str l[i].2.1]):=by simp[pk,h]
def Tm (s:bA):Bool:=decide ((s.size:Int)<=4096)&&decide (TrimS s=s)
theorem p86 (s:bA)(hs:(s.size:Int)<=9223372036854775807):Runs Fs 86 [aS s] [] (aB (Tm s)) []:=by
 refine An (c:=c86) rfl rfl ?_;rewrite[ADf,(ACK _ _).down];refine Ab (λh=>?_) (λh=>?_);·refine⟨_,sE s hs,?_⟩;rw[DJ,Tm,decide_eq_true h];rfl
 ·rw[Tm,decide_eq_false h];rfl
def Wm (n:Int)(p:Wr):Bool:=decide (0<=p.1)&&(decide (p.1<n)&&Tm p.2.1)
theorem p88 (n:Int)(p:Wr)(hs:(p.2.1.size:Int)<=9223372036854775807):Runs Fs 88 [.agg [aI p.1,aS p.2.1],.ptr 4100103 0] [(4100103,.box [aI n])] (aB (!(Wm n p))) [(4100103,.box [aI n])]:=by
 refine Ca (c:=c88) rfl rfl (by kernel_rfl) ?_;rewrite[ABn,(wH _ _ _ _).down];refine Ab (λh=>?_) (λh=>?_);·refine⟨?_,rfl⟩;rw[Wm,decide_eq_false (by omega:¬0<=p.1)];rfl
 ·refine Ab (λh2=>?_) (λh2=>?_);·refine⟨?_,rfl⟩;rw[Wm,decide_eq_false (by omega:¬p.1<n),decide_eq_true (by omega:0<=p.1)];rfl
  ·refine⟨_,p86 _ hs,?_,rfl⟩;rw[Wm,decide_eq_true (by omega:p.1<n),decide_eq_true (by omega:0<=p.1)];rfl
def U9 (n:Int)(l:List Wr):Bool:=l.any λp => !(Wm n p)
theorem ADF (n:Int)(l:List Wr)(hl:(l.length:Int)<=9223372036854775807)(hs:∀p∈l,(p.2.1.size:Int)<=9223372036854775807):∃r:Int,decide (r>=0)=U9 n l /\
  Runs Fs 133 [.o (.sl 2 (pk l)),.fn 88 [.ptr 4100103 0]] [(4100103,.box [aI n])] (aI r) [(4100103,.box [aI n])]:=by
 have key:∃r H',Runs Fs 133 [.o (.sl 2 (pk l)),.fn 88 [.ptr 4100103 0]] [(4100103,.box [.n (.int .i64 n)])] r H'/\(H'=[(4100103,.box [.n (.int .i64 n)])]/\∃k:Int,r = .n (.int .i64 k)/\decide (k>=0)=U9 n l):=by
  refine DH (R:=λr H'=>H'=[(4100103,.box [.n (.int .i64 n)])]/\∃k:Int,r = .n (.int .i64 k)/\decide (k>=0)=U9 n l) zJ rfl (by kernel_rfl) ?_;rewrite[nJ,(mM _ _ _).down];refine⟨λi=>0<=i/\i<=l.length/\∀j:Nat,(j:Int)<i->∀h:j<l.length,Wm n l[j]=true,λi=>(l.length-i).toNat,⟨rfl,by omega,by omega,λj hj=>by omega⟩,?_⟩;rintro i ⟨h0,h1,hok⟩ _;rw[EK];refine Ab (λh=>?_) (λh=>?_)
  ·have hi:i.toNat<l.length:=by omega
   refine⟨rfl,h0,_,I1 hi,_,_,rfl,Nat.le_refl _,_,p88 n l[i.toNat] (hs _ (List.getElem_mem hi)),Aa (λhb=>?_) (λhb=>?_)⟩;·refine⟨rfl,i,rfl,?_⟩;rw[decide_eq_true (by omega:i>=0)];exact(List.any_eq_true.2 ⟨_,List.getElem_mem hi,hb⟩).symm
   ·rw[Ad _ (by omega)];refine⟨rfl,rfl,rfl,rfl,⟨by omega,by omega,λj hj hjl=>?_⟩,by dsimp only;omega⟩;by_cases hji:(j:Int)<i;·exact hok j hji hjl
    ·obtain rfl:j=i.toNat:=by omega
     simpa using hb
  ·refine⟨rfl,-1,rfl,?_⟩;rw[decide_eq_false (by omega)];refine(List.any_eq_false.2 λp hp=>?_).symm;obtain⟨j,hj,rfl⟩:=List.getElem_of_mem hp;rw[hok j (by omega) hj];simp
 obtain⟨r,H',hr,rfl,k,rfl,hk⟩:=key
 exact⟨k,hk,hr⟩
theorem p87 (n:Int)(l:List Wr)(hl:(l.length:Int)<=9223372036854775807)(hs:∀p∈l,(p.2.1.size:Int)<=9223372036854775807):
  Runs Fs 87 [.o (.sl 2 (pk l)),.fn 88 [.ptr 4100103 0]] [(4100103,.box [aI n])] (aB (U9 n l)) [(4100103,.box [aI n])]:=by
 refine Ca (c:=c87) rfl rfl (by kernel_rfl) ?_
 rewrite[AAj,(uX _ _ _).down]
 obtain⟨r,hr,h⟩:=ADF n l hl hs
 exact⟨r,h,by rw[hr],rfl⟩
structure Fits (b:List bA) (p:List Wr):Prop where
 bl:b.length<=9223372036854775807
 pl:p.length<=9223372036854775807
 bs:∀s∈b,s.size<=9223372036854775807
 ps:∀x∈p,x.2.1.size<=9223372036854775807
def Rt (b:List bA)(p:List Wr):Bool:=decide (1<=b.length/\b.length<=2048/\p.length<=2048)&&(b.all Tm&&p.all (Wm b.length))
theorem K3 {b:List bA}{p:List Wr}(h:¬(1<=b.length/\b.length<=2048/\p.length<=2048)):Rt b p=false:=by rw[Rt,decide_eq_false h];rfl
theorem AB0 {b:List bA}{p:List Wr}{i:Nat}(hi:i<b.length)(h:Tm b[i]=false):Rt b p=false:=by rw[Rt];have:b.all Tm=false:=List.all_eq_false.2 ⟨_,List.getElem_mem hi,by rw[h];simp⟩;rw[this,Bool.false_and,Bool.and_false]
theorem dX {b:List bA}{p:List Wr}(h:1<=b.length/\b.length<=2048/\p.length<=2048)(hb:∀j,∀h:j<b.length,Tm b[j]=true):Rt b p = !(U9 b.length p):=by
 have:b.all Tm=true:=List.all_eq_true.2 λx hx=>by obtain⟨j,hj,rfl⟩:=List.getElem_of_mem hx;exact hb j hj
 rw[Rt,decide_eq_true h,this,Bool.true_and,Bool.true_and,U9,List.not_any_eq_all_not];simp
theorem tO (b:List bA)(p:List Wr)(hf:Fits b p):Runs Fs 41 [CO b p] [] (aB (Rt b p)) []:=by
 refine An (c:=c41) rfl rfl ?_;rw[CO,AC5];rw[(ADE _ _ _).down,CL,EK];have hbl:=hf.bl;have hpl:=hf.pl;refine Ab (λh=>by rw[K3 (by omega)]) (λh=>?_);refine Ab (λh2=>by rw[K3 (by omega)]) (λh2=>?_);refine Ab (λh3=>by rw[K3 (by omega)]) (λh3=>?_);refine⟨λi=>0<=i/\i<=b.length/\∀j:Nat,(j:Int)<i->∀h:j<b.length,Tm b[j]=true,λi=>(b.length-i).toNat,⟨rfl,by omega,by omega,λj hj=>by omega⟩,?_⟩;rintro i ⟨h0,h1,hok⟩ _;refine Ab (λh=>?_) (λh=>?_)
 ·have hi:i.toNat<b.length:=by omega
  refine⟨rfl,h0,_,MD hi,_,rfl,_,p86 _ (by have:=hf.bs _ (List.getElem_mem hi);omega),Aa (λhb=>?_) (λhb=>?_)⟩;·rw[AB0 hi (by simpa using hb)]
  ·rw[Ad _ (by omega)];refine⟨rfl,rfl,rfl,rfl,rfl,⟨by omega,by omega,λj hj hjl=>?_⟩,by dsimp only;omega⟩;by_cases hji:(j:Int)<i;·exact hok j hji hjl
   ·obtain rfl:j=i.toNat:=by omega
    simpa using hb
 ·refine⟨_,p87 b.length p (by omega) (λx hx=>by have:=hf.ps x hx;omega),?_⟩;rw[dX ⟨by omega,by omega,by omega⟩ λj hj=>hok j (by omega) hj]
def gJ:bA:=⟨#[]⟩
def Lk (b:List bA)(p:List Wr)(b':List bA)(p':List Wr):Bool:=decide (b=b')&&decide (p=p')
theorem aM (b:List bA)(p:List Wr):Lk b p b p=true:=by simp[Lk]
theorem ACa {x y:Wr}:((x.1==y.1)&&((x.2.1.toList==y.2.1.toList)&&true))=decide (x=y):=by
 obtain⟨x1,x2,_⟩:=x;obtain⟨y1,y2,_⟩:=y;rw[DJ];rw[Bool.and_true];by_cases h1:x1=y1
 ·by_cases h2:x2=y2;·subst h1;subst h2;simp
  ·rw[decide_eq_false h2,decide_eq_false (λe=>h2 (by simpa using congrArg (λz:Wr=>z.2.1) e)),Bool.and_false]
 ·rw[show(x1==y1)=false from beq_eq_false_iff_ne.2 h1,Bool.false_and,decide_eq_false (λe=>h1 (congrArg (Prod.fst:Wr->Int) e))]
def Jf (l:List UInt8)(k:Nat):UInt8:=(l[k]?).getD 0
def row (n:Nat)(f:Nat->UInt8):List UInt8:=(List.range n).map f
theorem KJ (n:Nat)(f:Nat->UInt8):(row n f).length=n:=by simp[row]
theorem RK (n:Nat)(f:Nat->UInt8)(k:Nat):Jf (row n f) k=if k<n then f k else 0:=by
 unfold Jf row;rw[List.getElem?_map];by_cases h:k<n;·rw[List.getElem?_range h,if_pos h];rfl
 ·rw[List.getElem?_eq_none (by simpa using h),if_neg h];rfl
theorem Na {n:Nat}{f g:Nat->UInt8}(h:∀k,k<n->f k=g k):row n f=row n g:=by unfold row;exact List.map_congr_left λk hk=>h k (List.mem_range.1 hk)
theorem lN (l m:List UInt8)(k:Nat):Jf (l++m) k=if k<l.length then Jf l k else Jf m (k-l.length):=by unfold Jf;rw[List.getElem?_append];split<;>rfl
theorem Zd (l:List UInt8)(n k:Nat):Jf (l++List.replicate n 0) k=Jf l k:=by
 rw[lN];split;·rfl
 ·rename_i h;have:Jf l k=0:=by unfold Jf;rw[List.getElem?_eq_none (by omega)];rfl
  rw[this];unfold Jf;rw[List.getElem?_replicate];split<;>rfl
theorem QI (l:List UInt8)(n:Nat)(h:l.length<=n):l++List.replicate (n-l.length) 0=row n (Jf l):=by
 refine List.ext_getElem? λk=>?_;unfold row;rw[List.getElem?_append,List.getElem?_map,List.getElem?_replicate];by_cases hk:k<l.length;·rw[if_pos hk,List.getElem?_range (by omega)];simp[Jf,hk]
 ·rw[if_neg hk];by_cases hn:k<n;·rw[if_pos (by omega),List.getElem?_range hn];simp[Jf,hk]
  ·rw[if_neg (by omega),List.getElem?_eq_none (by simpa using hn)];rfl
theorem ZE (l:List UInt8)(n:Nat)(h:l.length<=n):tz (row n (Jf l))=tz l:=by rw[<-QI l n h,IT]
theorem fH (l:List UInt8)(k:Nat):Jf (tz l) k=Jf l k:=by
 obtain⟨n,hn,_⟩:=FE l.length l rfl
 conv=>rhs;rw[hn]
 rw[Zd]
theorem gX {l m:List UInt8}(h:∀k,Jf l k=Jf m k):tz l=tz m:=by rw[<-ZE l (l.length+m.length) (by omega),<-ZE m (l.length+m.length) (by omega)];rw[Na λk _=>h k]
def At (s:bA)(k:Nat):UInt8:=Jf s.data.toList k
def Cb (l:List UInt8):bA:=⟨(tz l).toArray⟩
theorem Ei (l:List UInt8):(Cb l).data.toList=tz l:=by simp[Cb]
theorem Ia (l:List UInt8)(k:Nat):At (Cb l) k=Jf l k:=by rw[At,Ei,fH]
theorem GD {l m:List UInt8}(h:∀k,Jf l k=Jf m k):Cb l=Cb m:=by rw[Cb,Cb,gX h]
theorem IB (l:List UInt8):(Cb l).size<=l.length:=by have:=YQ l;rw[<-Ei,Ao]at this;exact this
theorem BS (s:bA):TrimS s=Cb s.data.toList:=AQ (by rw[Bp,Ei])
theorem Qt (l:List UInt8)(s:bA)(h:s.data.toList=l):TrimS s=Cb l:=by rw[BS,h]
theorem FY {l:List UInt8}:TrimS (Cb l)=Cb l:=by rw[BS,Ei];exact GD λk=>fH l k
theorem Yn {s t:bA}(hs:TrimS s=s)(ht:TrimS t=t)(h:∀k,At s k=At t k):s=t:=by rw[<-hs,<-ht,BS,BS];exact GD h
def bd (l:List UInt8):List Mir.D:=l.map λb => .int .u8 (b.toNat:Int)
theorem SH (l:List UInt8):(bd l).length=l.length:=by simp[bd]
theorem Wh (l:List UInt8):List.all (bd l) Mir.D.isU8=true:=by simp[bd,Mir.D.isU8]
theorem ABv (l:List UInt8):List.map Mir.byteOf (bd l)=l:=by
 unfold bd;rw[List.map_map]
 conv=>rhs;rw[<-List.map_id l]
 refine List.map_congr_left λb _=>?_;simp only[Function.comp,Mir.byteOf,id];exact UInt8.ofNat_toNat
theorem rN (l m:List UInt8):bd l++bd m=bd (l++m):=by simp[bd]
theorem NA (s:bA):bytesD s=bd s.data.toList:=rfl
theorem XA (l:List UInt8):ByteArray.mk (List.toArray (List.map Mir.byteOf (bd l)))=⟨l.toArray⟩:=by rw[ABv]
def G9 (s:bA)(i:Nat):List UInt8:=row 512 λk=>At s (512*i+k)
def JH (s:bA)(i:Int):bA:=if 0<=i/\i<=7 then Cb (G9 s i.toNat) else gJ
def HH (s:bA)(i:Nat):List UInt8:=(s.data.toList.take (512*(i+1))).drop (512*i)
theorem Xo (s:bA)(i:Nat):(HH s i).length<=512/\∀k,Jf (HH s i) k=Jf (G9 s i) k:=by
 refine⟨by simp[HH];omega,λk=>?_⟩;rw[G9,RK];unfold HH At Jf;rw[List.getElem?_drop,List.getElem?_take];by_cases h:k<512;·rw[if_pos h,if_pos (by omega)]
 ·rw[if_neg h,if_neg (by omega)];rfl
theorem mmF (a b:Int):Ck false a b=min a b:=by unfold Ck;simp only[Bool.false_eq_true,if_false];split<;>omega
theorem AHa (s:bA)(i:Int)(h0:0<=i)(h1:i<=7):Runs Fs 186 [aL (bytesD s),aI i] [] (aS ⟨(HH s i.toNat).toArray⟩) []:=by
 refine An (c:=c186) rfl rfl ?_;rw[ABs,ABG];rw[Ad (i+1) (by omega),Ad ((i+1)*512) (by omega),Ad (i*512) (by omega)];simp only[mmF];have hl:(bytesD s).length=s.data.toList.length:=SH _;have e1:List.drop (min (i*512) ((bytesD s).length:Int)).toNat (List.take (min ((i+1)*512) ((bytesD s).length:Int)).toNat (bytesD s))=bd (HH s i.toNat):=by
  rw[hl,NA,bd,bd,HH,List.map_drop,List.map_take];generalize hL:List.map (λb:UInt8=>Mir.D.int .u8 (b.toNat:Int)) s.data.toList=L;have hLl:s.data.toList.length=L.length:=by rw[<-hL];simp
  rw[hLl];refine List.ext_getElem? λk=>?_;rw[List.getElem?_drop,List.getElem?_drop,List.getElem?_take,List.getElem?_take];by_cases hk:512*i.toNat+k<512*(i.toNat+1)/\512*i.toNat+k<L.length;·rw[if_pos (by omega),if_pos (by omega),show(min (i*512) (L.length:Int)).toNat=512*i.toNat by omega]
  ·have:∀(a b:Nat) (c:Nat),¬(b<a/\b<L.length)->(if b<a then L[b]? else none)=none:=λa b c h=>by
    split;·exact List.getElem?_eq_none (by omega)
    ·rfl
   rw[this _ _ 0 (by omega),this _ _ 0 (by omega)]
 rw[e1];refine⟨trivial,by omega,by omega,by omega,by omega,by omega,by omega,.inl trivial,Wh _,?_⟩;rw[XA]
theorem yZ (s:bA)(i:Int)(hs:(s.size:Int)<=9223372036854775807):Runs Fs 155 [aS s,aI i] [] (aS (JH s i)) []:=by
 refine An (c:=c155) rfl rfl ?_;rewrite[ABM,(ABx _ _ _).down];refine Ab (λh=>by rw[JH,if_neg (by omega)];rfl) (λh=>?_);refine Ab (λh2=>by rw[JH,if_neg (by omega)];rfl) (λh2=>?_);obtain⟨hl,hat⟩:=Xo s i.toNat;refine⟨_,AHa s i (by omega) (by omega),_,sE _ ?_,?_⟩
 ·have e:(ByteArray.mk (HH s i.toNat).toArray).size=(HH s i.toNat).length:=by rw[<-Ao]
  rw[e];omega
 ·rw[JH,if_pos (by omega)];exact congrArg (λz=>AV.n (Mir.D.str z)) ((Qt (HH s i.toNat) _ (by simp)).trans (GD hat))
theorem QC (s:bA)(i:Int):(JH s i).size<=512:=by
 unfold JH;split;·have:=IB (G9 s i.toNat);rw[G9,KJ]at this;exact this
 ·decide
theorem W5 (s:bA)(i:Int)(h:0<=i/\i<=7):Li (JH s i) (512-(JH s i).size:Int).toNat=⟨(G9 s i.toNat).toArray⟩:=by refine AQ ?_;have hl:=QC s i;rw[Dw,show(512-((JH s i).size:Int)).toNat=512-(JH s i).data.toList.length by rw[Ao];omega,QI _ _ (by rw[Ao];exact hl)];simp only[List.toList_toArray];unfold G9;refine Na λk hk=>?_;have:=Ia (G9 s i.toNat) k;rw[JH,if_pos h];rw[At]at this;rw[this,G9,RK,if_pos hk]
def bt (mask:Int)(i:Nat):Bool:=decide (mask.fdiv (2 ^ i) % 2=1)
def IA (old now:bA)(mask:Int)(n:Nat):List UInt8:=row n λk=>At (if bt mask (k / 512) then now else old) k
def HD (old now:bA)(mask:Int):bA:=Cb (IA old now mask 4096)
theorem dB (x:Int):((w6 (((BitVec.ofInt 64 x) &&& (BitVec.ofInt 64 1)).toNat:Int))==1)=decide (x % 2=1):=by
 have h:((BitVec.ofInt 64 x) &&& (BitVec.ofInt 64 1)).toNat=(x % 2).toNat:=by
  rw[BitVec.toNat_and,show(BitVec.ofInt 64 1).toNat=1 from rfl,Nat.and_one_is_mod,BitVec.toNat_ofInt];have:((2 ^ 64:Nat):Int)=18446744073709551616:=by decide
  rw[this];omega
 rw[h];have h2:x % 2=0\/x % 2=1:=by omega
 rcases h2 with h2|h2<;>rw[h2]<;>rfl
theorem Z1 (old now:bA)(mask:Int)(i:Nat):IA old now mask (512*i)++G9 (if bt mask i then now else old) i=IA old now mask (512*(i+1)):=by
 refine List.ext_getElem? λk=>?_;have g:∀(n:Nat) (f:Nat->UInt8) (k:Nat),(row n f)[k]?=if k<n then some (f k) else none:=λn f k=>by
  unfold row;rw[List.getElem?_map];by_cases h:k<n;·rw[List.getElem?_range h,if_pos h];rfl
  ·rw[List.getElem?_eq_none (by simpa using h),if_neg h];rfl
 unfold IA G9;rw[List.getElem?_append,KJ,g,g,g];by_cases h1:k<512*i;·rw[if_pos h1,if_pos h1,if_pos (by omega:k<512*(i+1))]
 ·rw[if_neg h1];by_cases h2:k<512*(i+1);·rw[if_pos (by omega),if_pos h2,show k / 512=i by omega,show 512*i+(k-512*i)=k by omega]
  ·rw[if_neg (by omega),if_neg h2]
theorem TN (s:bA)(i:Int)(h:0<=i/\i<=7):Runs Fs 156 [aS (JH s i),aI 512] [] (.tup [aS ⟨(G9 s i.toNat).toArray⟩,aI 0]) []:=by have hl:=QC s i;have:=ABH (JH s i) 512 (by omega);rwa [FD (by omega) (by omega),W5 s i h]at this
theorem RQ (s:bA)(i:Nat):bytesD ⟨(G9 s i).toArray⟩=bd (G9 s i):=by rw[NA]
theorem Qj (s:bA)(i:Nat):(ByteArray.mk (G9 s i).toArray).size=512:=by rw[<-Ao];simp[G9,KJ]
theorem I7 (old now:bA)(mask:Int)(n:Nat):(IA old now mask n).length=n:=KJ _ _
theorem ABl (old now:bA)(mask:Int)(ho:(old.size:Int)<=9223372036854775807)(hn:(now.size:Int)<=9223372036854775807):
   Runs Fs 120 [aS old,aS now,aI mask] [] (aS (HD old now mask)) []:=by
 refine An (c:=c120) rfl rfl ?_
 rewrite[wV,(tT _ _ _ _).down]
 refine⟨λv i r=>v=r.1/\0<=i/\i<=8/\r.2=bd (IA old now mask (512*i.toNat)),λv i r=>(8-i).toNat,⟨rfl,rfl,by omega,by omega,rfl⟩,?_⟩
 rintro v i ⟨ver,els⟩ ⟨rfl,h0,h1,hels⟩ _
 dsimp only at hels
 subst hels
 refine Ab (λh3=>?_) (λh3=>?_)
 ·refine⟨_,yZ old i ho,h0,?_⟩
  have hmin:Min.min (Int.toNat i) (IntKind.bits .i64)=i.toNat:=by show Min.min (Int.toNat i) 64=i.toNat;omega
  rw[hmin,show IntKind.bits .i64=64 from rfl,dB,show decide (Int.fdiv mask (2 ^ i.toNat) % 2=1)=bt mask i.toNat from rfl]
  have hm:=Z1 old now mask i.toNat
  have tail:∀(t:bA),(if bt mask i.toNat then now else old)=t->(512*i.toNat+512<=140737488355328)/\bd (IA old now mask (512*i.toNat))++bytesD ⟨(G9 t i.toNat).toArray⟩=bd (IA old now mask (512*(i+1).toNat)):=λt ht=>by refine⟨by omega,?_⟩;rw[RQ,rN,<-ht,hm,show(i+1).toNat=i.toNat+1 by omega]
  refine Aa (λhb=>?_) (λhb=>?_)
  ·obtain⟨t1,t2⟩:=tail now (by rw[hb];rfl)
   refine⟨_,yZ now i hn,_,_,TN now i ⟨by omega,by omega⟩,⟨⟨rfl,rfl⟩,rfl⟩,?_,rfl,rfl,rfl,rfl,?_,?_⟩
   ·rw[SH,I7,Qj];exact t1
   ·rw[Ad (i+1) (by omega)]
    exact⟨rfl,by omega,by omega,t2⟩
   ·rw[Ad (i+1) (by omega)];dsimp only;omega
  ·obtain⟨t1,t2⟩:=tail old (by rw[hb];rfl)
   refine⟨_,_,TN old i ⟨by omega,by omega⟩,⟨⟨rfl,rfl⟩,rfl⟩,?_,rfl,rfl,rfl,rfl,?_,?_⟩
   ·rw[SH,I7,Qj];exact t1
   ·rw[Ad (i+1) (by omega)]
    exact⟨rfl,by omega,by omega,t2⟩
   ·rw[Ad (i+1) (by omega)];dsimp only;omega
 ·have e8:512*i.toNat=4096:=by omega
  have em:HD old now mask=Cb (IA old now mask (512*i.toNat)):=by rw[e8,HD]
  refine⟨rfl,.inl rfl,Wh _,_,sE _ ?_,?_⟩
  ·have e:(ByteArray.mk (IA old now mask (512*i.toNat)).toArray).size=(IA old now mask (512*i.toNat)).length:=by rw[<-Ao]
   rw[XA,e,I7];omega
  ·rw[XA,em]
   exact congrArg (λz=>AV.n (Mir.D.str z)) (Qt (IA old now mask (512*i.toNat)) _ (by simp))
theorem Yp (old now:bA)(mask:Int)(k:Nat):At (HD old now mask) k=if k<4096 then At (if bt mask (k / 512) then now else old) k else 0:=by rw[HD,Ia,IA,RK]
theorem PO (old now:bA)(mask:Int):(HD old now mask).size<=4096:=by have:=IB (IA old now mask 4096);rw[I7]at this;exact this
theorem K7 (old now:bA)(mask:Int):TrimS (HD old now mask)=HD old now mask:=FY
theorem Yf (i:Nat)(hi:i<=7):bt 255 i=true:=by
 have hi':i=0\/i=1\/i=2\/i=3\/i=4\/i=5\/i=6\/i=7:=by omega
 rcases hi' with rfl|rfl|rfl|rfl|rfl|rfl|rfl|rfl<;>rfl
def ml (ms:List Int):List Mir.D:=ms.map (.int .i64)
theorem oM (ms:List Int):(ml ms).length=ms.length:=by simp[ml]
theorem ABz {ms:List Int}{i:Nat}(h:i<ms.length):(ml ms)[i]?=some (.int .i64 ms[i]):=by simp[ml,h]
def mk (all:Bool)(ms:List Int)(k:Nat):Int:=if all then 255 else (ms[k]?).getD 0
def D7 (f:Nat->Int)(b:List bA)(p:List Wr):Nat->List bA
 | 0=>b
 | i+1=>match p[i]? with
   | some w=>(D7 f b p i).set w.1.toNat (HD (((D7 f b p i)[w.1.toNat]?).getD gJ) w.2.1 (f i))
   | none=>D7 f b p i
theorem BM (f:Nat->Int)(b:List bA)(p:List Wr):∀i,(D7 f b p i).length=b.length
 | 0=>rfl
 | i+1=>by
  rw[D7];split;·rw[List.length_set,BM]
  ·exact BM f b p i
theorem Lh (f:Nat->Int)(b:List bA)(p:List Wr)(i:Nat)(h:i<p.length)(hb:p[i].1.toNat<b.length):
  D7 f b p (i+1)=(D7 f b p i).set p[i].1.toNat (HD ((D7 f b p i)[p[i].1.toNat]'(by rw[BM];exact hb)) p[i].2.1 (f i)):=by
 rw[D7,gI h]
 simp only
 rw[gI (by rw[BM];exact hb)]
 rfl
theorem Xi (l:List bA)(i:Nat)(s:bA):(bk l).set i (.str s)=bk (l.set i s):=by simp[bk,List.map_set]
theorem KA (P:bA->Prop)(hm:∀a b m,P (HD a b m))(f:Nat->Int)(b:List bA)(p:List Wr)(h:∀s∈b,P s):∀i,∀s∈D7 f b p i,P s
 | 0=>h
 | i+1=>by
  intro s hs;rw[D7]at hs;split at hs
  ·rcases List.mem_or_eq_of_mem_set hs with hs|rfl;·exact KA P hm f b p h i s hs
   ·exact hm _ _ _
  ·exact KA P hm f b p h i s hs
structure Ok (b:List bA) (p:List Wr):Prop where
 bl:b.length<=2048
 pl:p.length<=2048
 bs:∀s∈b,(s.size:Int)<=9223372036854775807
 ps:∀w∈p,(w.2.1.size:Int)<=9223372036854775807
 pb:∀w∈p,0<=w.1/\w.1<b.length
theorem gG {b:List bA}{p:List Wr}(hf:Fits b p)(h:Rt b p=true):Ok b p:=by rw[Rt,Bool.and_eq_true,decide_eq_true_iff,Bool.and_eq_true]at h;obtain⟨⟨h1,h2,h3⟩,h4,h5⟩:=h;refine⟨h2,h3,λs hs=>by have:=hf.bs s hs;omega,λw hw=>by have:=hf.ps w hw;omega,λw hw=>?_⟩;have:=List.all_eq_true.1 h5 w hw;rw[Wm,Bool.and_eq_true,Bool.and_eq_true,decide_eq_true_iff,decide_eq_true_iff]at this;omega
theorem qZ (a b:bA)(m:Int):((HD a b m).size:Int)<=9223372036854775807:=by have:=PO a b m;omega
theorem X0 {b:List bA}{p:List Wr}(h:Ok b p)(f:Nat->Int)(i:Nat):∀s∈D7 f b p i,(s.size:Int)<=9223372036854775807:=
 KA (λs=>(s.size:Int)<=9223372036854775807) qZ f b p h.bs i
theorem p73 (k:Int)(hk:0<=k)(ms:List Int):Runs Fs 73 [aI k,.ptr 3200001 0] [(3200001,.box [aL (ml ms)])] (aI (mk false ms k.toNat)) [(3200001,.box [aL (ml ms)])]:=by
 refine Ca (c:=c73) rfl rfl (by kernel_rfl) ?_;rw[wE,(wS _ _ _).down,oM];refine Ab (λh=>?_) (λh=>?_)
 ·have hi:k.toNat<ms.length:=by omega
  refine⟨rfl,hk,_,ABz hi,_,rfl,?_,rfl⟩;rw[mk,if_neg (by simp),gI hi];rfl
 ·refine⟨?_,rfl⟩;rw[mk,if_neg (by simp),List.getElem?_eq_none (by omega)];rfl
theorem Te (b:List bA)(h:b.length<=2048):Runs Fs 119 [aL (bk b)] [] (.row 11900001 0) [(11900001,.row false false 0 9 1 (bk b))]:=
 AO HL _ (by rw[CL];omega)
theorem AGD (b:List bA)(p:List Wr)(ms:List Int)(h:Ok b p):
   Runs Fs 72 [CO b p,.fn 73 [.ptr 3200001 0]] [(3200001,.box [aL (ml ms)])] (CO (D7 (mk false ms) b p p.length) []) [(3200001,.box [aL (ml ms)])]:=by
 refine Ca (c:=c72) rfl rfl (by kernel_rfl) ?_
 rw[CO,vT,(wN _ _ _ _).down,EK]
 have hpl:=h.pl
 refine⟨_,_,Te b h.bl,λi r=>0<=i/\i<=p.length/\r.1=0/\r.2=bk (D7 (mk false ms) b p i.toNat),λi r=>(p.length-i).toNat,⟨rfl,by omega,by omega,rfl,rfl⟩,?_⟩
 rintro i r ⟨h0,h1,hr1,hr2⟩ _
 refine Ab (λhlt=>?_) (λhge=>?_)
 ·have hi:i.toNat<p.length:=by omega
  obtain⟨hb0,hb1⟩:=h.pb _ (List.getElem_mem hi)
  have hbi:p[i.toNat].1.toNat<(D7 (mk false ms) b p i.toNat).length:=by rw[BM];omega
  refine⟨rfl,h0,_,I1 hi,_,_,rfl,Nat.le_refl _,⟨hr1,rfl⟩,hb0,by rw[hr2,CL,BM];exact hb1,⟨hr1.symm,rfl⟩,_,by rw[hr2];exact MD hbi,_,rfl,_,p73 i h0 ms,_,
   ABl _ _ _ (X0 h _ _ _ (List.getElem_mem hbi)) (h.ps _ (List.getElem_mem hi)),⟨hr1,rfl⟩,hb0,by rw[hr2,CL,BM];exact hb1,⟨⟨⟨hr1.symm,rfl⟩,rfl⟩,rfl⟩,by rw[hr2,CL];exact hbi,?_⟩
  repeat (refine And.intro rfl ?_)
  rw[Ad _ (by omega),hr2,Xi]
  refine⟨⟨by omega,by omega,hr1,?_⟩,by dsimp only;omega⟩
  rw[show(i+1).toNat=i.toNat+1 by omega,Lh _ _ _ _ hi (by omega)]
 ·refine⟨hr1,?_,rfl⟩
  rw[hr2,show i.toNat=p.length by omega]
  rfl
def OM (b:List bA)(p:List Wr)(ms:List Int):AV:=if Rt b p then .tup [CO (D7 (mk false ms) b p p.length) [],aI 0] else .tup [CO [] [],aI 1]
theorem p32 (b:List bA)(p:List Wr)(ms:List Int)(hf:Fits b p):Runs Fs 32 [CO b p,aL (ml ms)] [] (OM b p ms) []:=by
 refine An (c:=c32) rfl rfl ?_;rewrite[CO,AGO,(ADB _ _ _ _).down];refine⟨_,tO b p hf,Aa (λh=>?_) (λh=>?_)⟩;·rw[OM,if_neg (by simpa using h)];rfl
 ·have h:Rt b p=true:=by simpa using h
  refine⟨_,_,AGD b p ms (gG hf h),?_⟩;rw[OM,if_pos h];rfl
theorem Q8 {s:bA}(h1:TrimS s=s)(h2:(s.size:Int)<=4096):Tm s=true:=by rw[Tm,decide_eq_true h1,decide_eq_true h2];rfl
theorem oO (a b:bA)(m:Int):Tm (HD a b m)=true:=Q8 (K7 a b m) (by have:=PO a b m;omega)
theorem Ic {b:List bA}{p:List Wr}(h:Rt b p=true):(∀s∈b,Tm s=true)/\(1<=b.length/\b.length<=2048/\p.length<=2048)/\∀w∈p,Wm b.length w=true:=by rw[Rt,Bool.and_eq_true,decide_eq_true_iff,Bool.and_eq_true]at h;exact⟨λs hs=>List.all_eq_true.1 h.2.1 s hs,h.1,λw hw=>List.all_eq_true.1 h.2.2 w hw⟩
theorem X2 {b:List bA}{p:List Wr}(h:1<=b.length/\b.length<=2048/\p.length<=2048)(hb:∀s∈b,Tm s=true)(hp:∀w∈p,Wm b.length w=true):Rt b p=true:=by rw[Rt,decide_eq_true h,List.all_eq_true.2 hb,List.all_eq_true.2 hp];rfl
theorem X7 {b:List bA}{p:List Wr}(h:Rt b p=true)(f:Nat->Int)(i:Nat):Rt (D7 f b p i) []=true:=by obtain⟨h1,h2,h3⟩:=Ic h;exact X2 (by rw[BM];exact⟨h2.1,h2.2.1,by simp⟩) (KA (λs=>Tm s=true) oO f b p h1 i) (λw hw=>by cases hw)
abbrev Ch:=bA×bA×Bool×Unit
def chD (c:Ch):Mir.D := .rcd [.str c.1,.str c.2.1,.bool c.2.2.1]
def ck (l:List Ch):List Mir.D:=l.map chD
def AE2 (no:Int)(body:bA):bA:=MQ [Cy (be no 1),body]
def Wo (p:AV)(gen:Int):Int×bA×Int:=
 match p with
 | .tup [.agg [.n (.int _ k),.n (.int _ g),.n (.str b)],.n (.int _ e)]=>
   if e≠0 then (0,empS,e) else if k≠5 then (0,empS,40) else if g≠gen\/b.size<1\/481<b.size\/7<CN (Ar b 0 1) then (0,empS,4) else (CN (Ar b 0 1),b.extract 1 b.size,0)
 | _=>(0,empS,0)
def tri (x:Int×bA×Int):AV := .tup [aI x.1,aS x.2.1,aI x.2.2]
def E8 (s:bA)(gen:Int):Int×bA×Int:=Wo (GetPR s) gen
theorem Mp {e:Int}(he:e≠0)(gen:Int):Wo (EN e) gen=(0,empS,e):=by simp only[Wo,EN,pg,if_pos he]
theorem Ua (k g:Int)(b:bA)(gen:Int):Wo (.tup [pg k g b,aI 0]) gen=if k≠5 then (0,empS,40) else if g≠gen\/b.size<1\/481<b.size\/7<CN (Ar b 0 1) then (0,empS,4) else (CN (Ar b 0 1),b.extract 1 b.size,0):=by simp only[Wo,pg];rw[if_neg (by simp)]
theorem Sb {b:bA}(h:1<=b.size):H8 b 0 1 = .tup [aI (CN (Ar b 0 1)),aI 1,aI 0]:=Bj (by omega) (by omega)
theorem p93 (s:bA)(hs:(s.size:Int)<=9223372036854775807)(gen:Int):Runs Fs 93 [aS s,aI gen] [] (tri (E8 s gen)) []:=by
 refine An (c:=c93) rfl rfl ?_;rewrite[AE8,(AGV _ _ _).down];rw[E8];rcases A7 s with⟨e,he,h⟩|⟨k,g,b,h,hok,_⟩
 ·have g:=KG s hs [5] e he h;rw[h,Mp he];refine⟨rfl,_,_,_,_,g,Aa (λ_=>rfl) (λh=>absurd (by simpa using h) he)⟩
 ·have h53:=OO s hs [5] (by simp) k g b h;rw[h,Ua];by_cases hk:k=5
  ·rw[if_pos (by simp[hk])]at h53;rw[if_neg (by simp[hk])];refine⟨rfl,_,_,_,_,h53,Aa (λh=>by cases h) (λ_=>?_)⟩;obtain⟨_,_,_,_,hb⟩:=hok;have h54:=SP b (by omega) 0 1;by_cases h1:b.size<1;·rw[CA (by omega) (by omega)]at h54;rw[if_pos (.inr (.inl h1))];exact⟨_,_,_,h54,Aa (λ_=>rfl) (λh=>by cases h)⟩
   ·rw[Sb (by omega)]at h54;refine⟨_,_,_,h54,Aa (λh=>by cases h) (λ_=>?_)⟩;refine Aa (λhg=>by rw[if_pos (.inl (by simpa using hg))];rfl) (λhg=>?_);rw[Ad _ (by omega)];refine Ab (λhz=>by rw[if_pos (.inr (.inr (.inl (by omega))))];rfl) (λhz=>?_);refine Ab (λhn=>by rw[if_pos (.inr (.inr (.inr (by omega))))];rfl) (λhn=>?_);have hg:g=gen:=by simpa using hg
    rw[if_neg (by omega)];exact⟨by omega,by omega,rfl⟩
  ·rw[if_neg (by simp[hk])]at h53;rw[if_pos hk];exact⟨rfl,_,_,_,_,h53,Aa (λ_=>rfl) (λh=>by cases h)⟩
theorem p13 (b:List bA)(p:List Wr)(b':List bA)(p':List Wr)(hf:Fits b p)(hf':Fits b' p'):Runs Fs 13 [CO b p,CO b' p'] [] (aB (Lk b p b' p')) []:=by
 refine An (c:=c13) rfl rfl ?_;rw[CO,CO,ADG,(AGw _ _ _ _ _).down];rw[CL b,CL b',EK p,EK p'];have hbl:=hf.bl;have hpl:=hf.pl;have no:¬(b=b'/\p=p')->AV.n (Mir.D.bool false)=AV.n (Mir.D.bool (Lk b p b' p')):=λh=>by rw[Lk,<-Bool.decide_and,decide_eq_false h]
 refine Aa (λh=>no λe=>by rw[e.1]at h;simp at h) (λh=>?_);refine Aa (λh2=>no λe=>by rw[e.2]at h2;simp at h2) (λh2=>?_);have e1:b.length=b'.length:=by have:=bne_eq_false_iff_eq.1 h;omega
 have e2:p.length=p'.length:=by have:=bne_eq_false_iff_eq.1 h2;omega
 refine⟨λi=>0<=i/\i<=b.length/\∀j:Nat,(j:Int)<i->b[j]?=b'[j]?,λi=>(b.length-i).toNat,⟨rfl,by omega,by omega,λj hj=>by omega⟩,?_⟩;rintro i ⟨h0,h1,hok⟩ _;refine Ab (λh=>?_) (λh=>?_)
 ·have hi:i.toNat<b.length:=by omega
  have hi':i.toNat<b'.length:=by omega
  refine⟨rfl,h0,_,MD hi,_,rfl,rfl,h0,_,MD hi',_,rfl,GQ (λhne=>no λe=>hne ?_) (λhe=>?_)⟩;·have:=e.1;subst this;rfl
  ·rw[Ad _ (by omega)];refine⟨rfl,rfl,rfl,rfl,⟨by omega,by omega,λj hj=>?_⟩,by dsimp only;omega⟩;by_cases hji:(j:Int)<i;·exact hok j hji
   ·obtain rfl:j=i.toNat:=by omega
    rw[gI hi,gI hi',he]
 ·have hb:b=b':=List.ext_getElem? λj=>by
   by_cases hj:(j:Int)<i;·exact hok j hj
   ·rw[List.getElem?_eq_none (by omega),List.getElem?_eq_none (by omega)]
  refine⟨λi=>0<=i/\i<=p.length/\∀j:Nat,(j:Int)<i->p[j]?=p'[j]?,λi=>(p.length-i).toNat,⟨rfl,by omega,by omega,λj hj=>by omega⟩,?_⟩;rintro i ⟨h0,h1,hok⟩ _;refine Ab (λh=>?_) (λh=>?_)
  ·have hi:i.toNat<p.length:=by omega
   have hi':i.toNat<p'.length:=by omega
   refine⟨rfl,h0,_,I1 hi,_,_,rfl,Nat.le_refl _,rfl,h0,_,I1 hi',_,_,rfl,Nat.le_refl _,?_⟩;rw[ACa];refine Aa (λhne=>no λe=>?_) (λhe=>?_);·have:=e.2;subst this;simp at hne
   ·rw[Ad _ (by omega)];have he:p[i.toNat]=p'[i.toNat]:=by simpa using he
    refine⟨rfl,rfl,rfl,rfl,⟨by omega,by omega,λj hj=>?_⟩,by dsimp only;omega⟩;by_cases hji:(j:Int)<i;·exact hok j hji
    ·obtain rfl:j=i.toNat:=by omega
     rw[gI hi,gI hi',he]
  ·have hp:p=p':=List.ext_getElem? λj=>by
    by_cases hj:(j:Int)<i;·exact hok j hj
    ·rw[List.getElem?_eq_none (by omega),List.getElem?_eq_none (by omega)]
   rw[Lk,decide_eq_true hb,decide_eq_true hp];rfl
theorem AGR (k:Int):Runs Fs 101 [aI k] [] (aI 255) []:=by refine An (c:=c101) rfl rfl ?_;rw[ACd];exact rfl
theorem AFE (b:List bA)(p:List Wr)(h:Ok b p):Runs Fs 72 [CO b p,.fn 101 []] [] (CO (D7 (λ_=>255) b p p.length) []) []:=by
 refine An (c:=c72) rfl rfl ?_;rw[CO,uI,(xZ _ _ _).down,EK];have hpl:=h.pl;refine⟨_,_,Te b h.bl,λi r=>0<=i/\i<=p.length/\r.1=0/\r.2=bk (D7 (λ_=>255) b p i.toNat),λi r=>(p.length-i).toNat,⟨rfl,by omega,by omega,rfl,rfl⟩,?_⟩;rintro i r ⟨h0,h1,hr1,hr2⟩ _;refine Ab (λhlt=>?_) (λhge=>?_)
 ·have hi:i.toNat<p.length:=by omega
  obtain⟨hb0,hb1⟩:=h.pb _ (List.getElem_mem hi);have hbi:p[i.toNat].1.toNat<(D7 (λ_=>255) b p i.toNat).length:=by rw[BM];omega
  refine⟨rfl,h0,_,I1 hi,_,_,rfl,Nat.le_refl _,⟨hr1,rfl⟩,hb0,by rw[hr2,CL,BM];exact hb1,⟨hr1.symm,rfl⟩,_,by rw[hr2];exact MD hbi,_,rfl,_,AGR i,_,
   ABl _ _ _ (X0 h _ _ _ (List.getElem_mem hbi)) (h.ps _ (List.getElem_mem hi)),⟨hr1,rfl⟩,hb0,by rw[hr2,CL,BM];exact hb1,⟨⟨⟨hr1.symm,rfl⟩,rfl⟩,rfl⟩,by rw[hr2,CL];exact hbi,?_⟩
  repeat (refine And.intro rfl ?_)
  rw[Ad _ (by omega),hr2,Xi];refine⟨⟨by omega,by omega,hr1,?_⟩,by dsimp only;omega⟩;rw[show(i+1).toNat=i.toNat+1 by omega,Lh _ _ _ _ hi (by omega)]
 ·refine⟨hr1,?_⟩;rw[hr2,show i.toNat=p.length by omega];rfl
theorem OI {s:bA}{k:Nat}(h:s.size<=k):At s k=0:=by rw[At,Jf,List.getElem?_eq_none (by rw[Ao];exact h)];rfl
theorem UZ {a b:bA}(m:Int)(ha:a.size<=512)(hb:b.size<=512)(ta:TrimS a=a)(tb:TrimS b=b):HD a b m=if bt m 0 then b else a:=by
 refine Yn (K7 a b m) (by split<;>assumption) λk=>?_;rw[Yp];by_cases h:k<512;·rw[if_pos (by omega),Nat.div_eq_of_lt h]
 ·rw[show At (if bt m 0 then b else a) k=0 by split<;>exact OI (by omega)];split;·split<;>exact OI (by omega)
  ·rfl
end Go.Proofs.YtegndijbpiccgaaGreatDoor.M
