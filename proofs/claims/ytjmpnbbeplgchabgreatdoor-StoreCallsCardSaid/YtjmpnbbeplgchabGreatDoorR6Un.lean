import Derived.Test.YtjmpnbbeplgchabGreatDoorR6Dv
import Derived.Test.YtjmpnbbeplgchabGreatDoorR6FunB
namespace Go.Proofs.YtjmpnbbeplgchabGreatDoor.M
set_option linter.unusedVariables false
set_option linter.unusedSimpArgs false
open Go Go.Mir
theorem p45 (c:Ch):Runs Fs 45 [uB c] [] (aB (EF c)) []:=by refine Ag (c:=c45) rfl rfl ?_;rewrite[uB,AII,(AHE _ _ _ _).down];refine Ab (λh1=>?_) (λh1=>by rw[Pj (by omega)]);refine Ab (λh2=>?_) (λh2=>by rw[Pj (by omega)]);refine Ab (λh3=>?_) (λh3=>by rw[Pj (by omega)]);rw[EF,decide_eq_true (by omega:1<=c.1.size/\c.1.size<=32/\c.2.1.size<=200)];refine Aa (λh=>by rw[h];rfl) (λh=>?_);rw[h,Dn];rfl
theorem ADN (c:Ch):Runs Fs 115 [uB c] [] (aB (!EF c)) []:=by refine Ag (c:=c115) rfl rfl ?_;rewrite[uB,ABa,(AAp _ _ _ _).down];exact⟨_,p45 c,rfl⟩
theorem p81 (l:List Ch)(hl:(l.length:Int)<=9223372036854775807):∃r:Int,decide (r>=0)=l.any (λc => !EF c)/\Runs Fs 81 [.o (.sl 3 (ck l)),.fn 115 []] [] (aI r) []:=by
 have key:∃r,Runs Fs 81 [.o (.sl 3 (ck l)),.fn 115 []] [] r []/\∃k:Int,r = .n (.int .i64 k)/\decide (k>=0)=l.any (λc => !EF c):=by
  refine DG (R:=λr=>∃k:Int,r = .n (.int .i64 k)/\decide (k>=0)=l.any (λc => !EF c)) (c:=c81) rfl rfl ?_;rw[wW,(ACz _ _).down,Jz];refine⟨λi=>0<=i/\i<=l.length/\∀j:Nat,(j:Int)<i->∀h:j<l.length,EF l[j]=true,λi=>(l.length-i).toNat,⟨rfl,by omega,by omega,λj hj=>by omega⟩,?_⟩;rintro i ⟨h0,h1,hok⟩ _;refine Ab (λh=>?_) (λh=>?_)
  ·have hi:i.toNat<l.length:=by omega
   refine⟨rfl,h0,_,Ye hi,_,_,_,rfl,Nat.le_refl _,_,ADN l[i.toNat],Aa (λhb=>?_) (λhb=>?_)⟩;·refine⟨i,rfl,?_⟩;rw[decide_eq_true (by omega:i>=0)];exact(List.any_eq_true.2 ⟨_,List.getElem_mem hi,hb⟩).symm
   ·repeat (refine And.intro rfl ?_)
    rw[Ac _ (by omega)];refine⟨⟨by omega,by omega,λj hj hjl=>?_⟩,by dsimp only;omega⟩;by_cases hji:(j:Int)<i;·exact hok j hji hjl
    ·obtain rfl:j=i.toNat:=by omega
     simpa using hb
  ·refine⟨-1,rfl,?_⟩;rw[decide_eq_false (by omega)];refine(List.any_eq_false.2 λp hp=>?_).symm;obtain⟨j,hj,rfl⟩:=List.getElem_of_mem hp;rw[hok j (by omega) hj];simp
 obtain⟨r,hr,k,rfl,hk⟩:=key;exact⟨k,hk,hr⟩
theorem p43 (l:List Ch)(hl:(l.length:Int)<=9223372036854775807):Runs Fs 43 [.o (.sl 3 (ck l)),.fn 115 []] [] (aB (l.any λc => !EF c)) []:=by refine Ag (c:=c43) rfl rfl ?_;rewrite[ADp,(ADs _ _).down];obtain⟨r,hr,h⟩:=p81 l hl;exact⟨r,h,by rw[hr]⟩
set_option maxRecDepth 4000 in
theorem p69 (l:List Ch)(hl:(l.length:Int)<=9223372036854775807):Runs Fs 69 [.o (.sl 3 (ck l))] [] (J0 l) []:=by
 refine Ag (c:=c69) rfl rfl ?_;rw[AJs,(AFO _ _).down,Jz];refine⟨_,p43 l hl,Aa (λh=>by rw[J0,if_pos h];rfl) (λh=>?_)⟩;have hok:∀c∈l,EF c=true:=λc hc=>by simpa using List.any_eq_false.1 h c hc
 by_cases hn:255<l.length;·have g:=XI (l.length:Int) 1 (.inr (.inr (.inr ⟨by omega,by omega,by simp;omega⟩)));refine⟨_,_,g,?_⟩;rw[J0,if_neg (by rw[h];simp),if_pos hn];exact Aa (λ_=>rfl) (λh=>by cases h)
 have g:=Cr (l.length:Int) 1 (by omega) (by omega) (by omega) (by simp;omega);refine⟨_,_,g,Aa (λh=>by cases h) (λ_=>?_)⟩;refine⟨λo i=>0<=i/\i<=l.length/\o=IP (CG l i.toNat)/\(CG l i.toNat).length<=480,λo i=>(l.length-i).toNat,⟨rfl,by omega,by omega,?_,?_⟩,?_⟩;·rw[show BZ (be (l.length:Int) (1:Int).toNat)=IP (Cj l.length 1) from UR _];simp[CG]
 ·simp[CG,Ap]
 rintro o i ⟨h0,h1,rfl,ho⟩ _;refine Ab (λhlt=>?_) (λhge=>?_)
 ·have hi:i.toNat<l.length:=by omega
  have hc:=hok _ (List.getElem_mem hi);obtain⟨k1,k2,k3⟩:=SF hc;have hs:=J3 l i.toNat hi;have hlong:480<(CG l (i.toNat+1)).length->J0 l=Qc 2:=λh2=>by rw[J0,if_neg (by rw[h];simp),if_neg hn,if_pos];exact Nat.lt_of_lt_of_le h2 (UH l (by omega))
  generalize hcc:l[i.toNat]=c at *;have g1:=bQ c.1;rw[IV (by omega)]at g1;have g2:=bQ c.2.1;rw[IV (by omega)]at g2;have t1:=CE c.1;have t2:=CE c.2.1;have e1:(ByteArray.mk (List.toArray (List.map Mir.byteOf [(Mir.D.int .u8 1)]))).size=1:=by decide
  have e0:(ByteArray.mk (List.toArray (List.map Mir.byteOf [(Mir.D.int .u8 0)]))).size=1:=by decide
  have eo:=Ji (CG l i.toNat);refine⟨rfl,h0,_,(by rw[Ye hi,hcc]),_,_,_,rfl,Nat.le_refl _,_,_,g1,Aa (λhg=>?_) (λhg=>?_)⟩
  ·have g3:=MT [IP (CG l i.toNat),ByteArray.mk (List.toArray (List.map Mir.byteOf [(Mir.D.int .u8 1)])),BR c.1] (by simp) (by simp only[Da];omega);rw[XM _ _ hg]at g3;refine⟨rfl,.inl rfl,rfl,rfl,_,g3,?_⟩;rw[<-hs,Ji];refine Ab (λhz=>by rw[hlong (by omega)];rfl) (λhz=>?_);repeat (refine And.intro rfl ?_)
   rw[Ac _ (by omega)];exact⟨⟨by omega,by omega,by rw[show(i+1).toNat=i.toNat+1 by omega],by rw[show(i+1).toNat=i.toNat+1 by omega];omega⟩,by dsimp only;omega⟩
  ·have g3:=MT [IP (CG l i.toNat),ByteArray.mk (List.toArray (List.map Mir.byteOf [(Mir.D.int .u8 0)])),BR c.1,BR c.2.1] (by simp) (by simp only[Da];omega);rw[VP _ _ hg]at g3;refine⟨_,_,g2,rfl,.inl rfl,rfl,rfl,_,g3,?_⟩;rw[<-hs,Ji];refine Ab (λhz=>by rw[hlong (by omega)];rfl) (λhz=>?_);repeat (refine And.intro rfl ?_)
   rw[Ac _ (by omega)];exact⟨⟨by omega,by omega,by rw[show(i+1).toNat=i.toNat+1 by omega],by rw[show(i+1).toNat=i.toNat+1 by omega];omega⟩,by dsimp only;omega⟩
 ·rw[show i.toNat=l.length by omega]at ho |-;rw[J0,if_neg (by rw[h];simp),if_neg hn,if_neg (by rw[P5];omega)];rfl
theorem p70 (gen no:Int)(body:bA):Runs Fs 70 [aI gen,aI no,aS body] [] (Nb gen no body) []:=by
 refine Ag (c:=c70) rfl rfl ?_;rewrite[AF9,(AFK _ _ _ _).down];refine Ab (λh=>by rw[Iu (by omega)];rfl) (λh=>?_);refine Ab (λh1=>by rw[Iu (by omega)];rfl) (λh1=>?_);refine Ab (λh2=>by rw[Iu (by omega)];rfl) (λh2=>?_);refine Ab (λh3=>by rw[Iu (by omega)];rfl) (λh3=>?_);refine Ab (λh4=>by rw[Nb,if_neg (by omega),if_pos (by omega)];rfl) (λh4=>?_);have g:=Cr no 1 (by omega) (by omega) (by omega) (by simp;omega);have g2:=MT [BZ (be no 1),body] (by simp) (by simp only[Da,Bo,C8];omega);have hsz:=M4 no body;have g3:=p56 5 gen (RX no body);have hok:pgOK 5 gen (RX no body):=⟨by omega,by omega,by omega,by omega,by omega⟩
 rw[J8,if_pos hok]at g3;refine⟨_,_,g,rfl,_,g2,_,_,g3,?_⟩;rw[Nb,if_neg (by omega),if_neg (by omega)]
theorem p44 (c:Ch):Runs Fs 44 [uB c] [] (aB (!EF c)) []:=by refine Ag (c:=c44) rfl rfl ?_;rewrite[uB,AJg,(ADM _ _ _ _).down];exact⟨_,p45 c,rfl⟩
theorem ADW (l:List Ch)(hl:(l.length:Int)<=9223372036854775807):∃r:Int,decide (r>=0)=l.any (λc => !EF c)/\Runs Fs 81 [.o (.sl 3 (ck l)),.fn 44 []] [] (aI r) []:=by
 have key:∃r,Runs Fs 81 [.o (.sl 3 (ck l)),.fn 44 []] [] r []/\∃k:Int,r = .n (.int .i64 k)/\decide (k>=0)=l.any (λc => !EF c):=by
  refine DG (R:=λr=>∃k:Int,r = .n (.int .i64 k)/\decide (k>=0)=l.any (λc => !EF c)) (c:=c81) rfl rfl ?_;rw[AA3,(ACC _ _).down,Jz];refine⟨λi=>0<=i/\i<=l.length/\∀j:Nat,(j:Int)<i->∀h:j<l.length,EF l[j]=true,λi=>(l.length-i).toNat,⟨rfl,by omega,by omega,λj hj=>by omega⟩,?_⟩;rintro i ⟨h0,h1,hok⟩ _;refine Ab (λh=>?_) (λh=>?_)
  ·have hi:i.toNat<l.length:=by omega
   refine⟨rfl,h0,_,Ye hi,_,_,_,rfl,Nat.le_refl _,_,p44 l[i.toNat],Aa (λhb=>?_) (λhb=>?_)⟩;·refine⟨i,rfl,?_⟩;rw[decide_eq_true (by omega:i>=0)];exact(List.any_eq_true.2 ⟨_,List.getElem_mem hi,hb⟩).symm
   ·repeat (refine And.intro rfl ?_)
    rw[Ac _ (by omega)];refine⟨⟨by omega,by omega,λj hj hjl=>?_⟩,by first|omega|(dsimp only;omega)⟩;by_cases hji:(j:Int)<i;·exact hok j hji hjl
    ·obtain rfl:j=i.toNat:=by omega
     simpa using hb
  ·refine⟨-1,rfl,?_⟩;rw[decide_eq_false (by omega)];refine(List.any_eq_false.2 λp hp=>?_).symm;obtain⟨j,hj,rfl⟩:=List.getElem_of_mem hp;rw[hok j (by omega) hj];simp
 obtain⟨r,hr,k,rfl,hk⟩:=key;exact⟨k,hk,hr⟩
theorem AFt (l:List Ch)(hl:(l.length:Int)<=9223372036854775807):Runs Fs 43 [.o (.sl 3 (ck l)),.fn 44 []] [] (aB (l.any λc => !EF c)) []:=by refine Ag (c:=c43) rfl rfl ?_;rewrite[AC8,(AC0 _ _).down];obtain⟨r,hr,h⟩:=ADW l hl;exact⟨r,h,by rw[hr]⟩
def H7 (s:bA)(n e:Int):Heap:=[(1000000,.box [aS s]),(1000300,.box [aI n]),(1000301,.box [aI e])]
theorem p39 (s:bA)(hs:(s.size:Int)<=9223372036854775807)(n e:Int):Runs Fs 39 [.ptr 1000301 0,.ptr 1000000 0,.ptr 1000300 0] (H7 s n e) (aI (nx s n e).1) (H7 s (nx s n e).2.1 (nx s n e).2.2):=by
 refine De AHI rfl (by kernel_rfl) ?_;rewrite[H7,vR,(wY _ _ _ _).down];refine Aa (λh=>?_) (λh=>?_);·rw[nx,if_pos (by simpa using h)];exact⟨rfl,rfl⟩
 ·rw[nx,if_neg (by simpa using h)];have g:=gW s hs n 1;rw[Np]at g;exact⟨_,_,_,g,rfl,rfl⟩
theorem p41 (s:bA)(hs:(s.size:Int)<=9223372036854775807)(n e:Int):Runs Fs 41 [.ptr 1000301 0,.ptr 1000000 0,.ptr 1000300 0] (H7 s n e) (aS (tx s n e).1) (H7 s (tx s n e).2.1 (tx s n e).2.2):=by
 refine De AI9 rfl (by kernel_rfl) ?_;rewrite[H7,zU,(yM _ _ _ _).down];refine Aa (λh=>?_) (λh=>?_);·rw[tx,if_pos (by simpa using h)];exact⟨rfl,rfl⟩
 ·rw[tx,if_neg (by simpa using h)];have g:=p42 s hs n;rw[P6]at g;exact⟨_,_,_,g,rfl,rfl⟩
def Po (s:bA)(a:Int):Sum Int (Ch×Int):=
 if (gT s a 1).2.2≠0 then .inl (gT s a 1).2.2
 else if 1<(gT s a 1).1 then .inl 4
 else if (cT s (gT s a 1).2.1).2.2≠0 then .inl (cT s (gT s a 1).2.1).2.2
 else if (gT s a 1).1=1 then .inr (((cT s (gT s a 1).2.1).1,Ar,true,()),(cT s (gT s a 1).2.1).2.1)
 else if (cT s (cT s (gT s a 1).2.1).2.1).2.2≠0 then .inl (cT s (cT s (gT s a 1).2.1).2.1).2.2
 else .inr (((cT s (gT s a 1).2.1).1,(cT s (cT s (gT s a 1).2.1).2.1).1,false,()),(cT s (cT s (gT s a 1).2.1).2.1).2.1)
def Ss (s:bA):Nat->Int->List Ch->Sum Int (List Ch×Int)
 | 0,a,l => .inr (l,a)
 | n+1,a,l=>match Po s a with
   | .inl e => .inl e
   | .inr (c,a')=>Ss s n a' (l++[c])
theorem QI {s:bA}{n:Nat}{a:Int}{l:List Ch}{e:Int}(h:Po s a = .inl e):Ss s (n+1) a l = .inl e:=by rw[Ss,h]
theorem gY {s:bA}{n:Nat}{a:Int}{l:List Ch}{c:Ch}{a':Int}(h:Po s a = .inr (c,a')):Ss s (n+1) a l=Ss s n a' (l++[c]):=by rw[Ss,h]
def SJ (e:Int):AV := .tup [.o (.sl 3 []),aI e]
def QA (s:bA):Sum Int (List Ch×Int)->AV
 | .inl e=>SJ e
 | .inr (l,a)=>if a≠s.size then SJ 4 else if l.any (λc => !EF c) then SJ 4 else .tup [.o (.sl 3 (ck l)),.n (.int .i64 0)]
def CZ (s:bA):AV:=
 if 480<s.size then SJ 2 else if (gT s 0 1).2.2≠0 then SJ (gT s 0 1).2.2 else QA s (Ss s (gT s 0 1).1.toNat (gT s 0 1).2.1 [])
theorem N7 (l:List Ch)(a b:bA)(g:Bool):ck l++[.rcd [.str a,.str b,.bool g]]=ck (l++[(a,b,g,())]):=by simp[ck,chD]
theorem S5 {s:bA}(h:¬480<s.size)(h2:(gT s 0 1).2.2=0):CZ s=QA s (Ss s (gT s 0 1).1.toNat (gT s 0 1).2.1 []):=by rw[CZ,if_neg h,if_neg (by rw[h2];simp)]
theorem Ro {s:bA}(h:¬480<s.size)(h2:(gT s 0 1).2.2≠0):CZ s=SJ (gT s 0 1).2.2:=by rw[CZ,if_neg h,if_pos h2]
set_option maxRecDepth 10000 in
set_option maxHeartbeats 3300000 in
theorem p10 (s:bA)(hs:(s.size:Int)<=9223372036854775807):Runs Fs 10 [aS s] [] (CZ s) []:=by
 refine Ag (c:=c10) rfl rfl ?_;rw[AI1,(AHm _ _).down];refine Ab (λh=>by rw[CZ,if_pos (by omega)];rfl) (λh=>?_);have h480:¬480<s.size:=by omega
 have g0:=p39 s hs 0 0;have e0:nx s 0 0=gT s 0 1:=if_neg (by simp);rw[e0]at g0;have hb0:=KJ s 0;refine⟨_,_,_,_,g0,λv i S N E L=>S.1=s/\L.1=v/\0<=i/\∃l,L.2=ck l/\(l.length:Int)+i<=255/\((E.1=0/\CZ s=QA s (Ss s i.toNat N.1 l))\/(E.1≠0/\CZ s=SJ E.1)),λv i S N E L=>i.toNat,⟨rfl,rfl,rfl,hb0.1,[],rfl,by simp;omega,?_⟩,?_⟩
 ·by_cases h2:(gT s 0 1).2.2=0;·exact .inl ⟨h2,S5 h480 h2⟩
  ·exact .inr ⟨h2,Ro h480 h2⟩
 rintro v i ⟨S,_⟩ ⟨N,_⟩ ⟨E,_⟩ ⟨lv,L⟩ ⟨hS,hL,hi0,l,hl,hlen,hinv⟩ _;dsimp only at hS hL hl hinv |-;subst hS hL hl;refine Ab (λhi=>?_) (λhi=>?_)
 ·refine Aa (λhE=>?_) (λhE=>?_)
  ·have hE:E=0:=by simpa using hE
   subst hE;have hU:=(hinv.resolve_right λh=>h.1 rfl).2;obtain⟨j,hj⟩:∃j,i.toNat=j+1:=⟨i.toNat-1,by omega⟩
   have hj':(i-1).toNat=j:=by omega
   rw[hj]at hU;have g1:=p39 S hs N 0;rw[show nx S N 0=gT S N 1 from if_neg (by simp)]at g1;refine⟨_,_,_,_,g1,Aa (λhe=>?_) (λhe=>?_)⟩
   ·have he:(gT S N 1).2.2=0:=by simpa using he
    refine Ab (λhg=>?_) (λhg=>?_)
    ·have hu:Po S N = .inl 4:=by rw[Po,if_neg (by rw[he];simp),if_pos (by omega)]
     rw[hU,QI hu];rfl
    have g2:=p41 S hs (gT S N 1).2.1 (gT S N 1).2.2;rw[he,show tx S (gT S N 1).2.1 0=cT S (gT S N 1).2.1 from if_neg (by simp)]at g2;rw[he];refine⟨_,_,_,_,g2,Aa (λhn=>?_) (λhn=>?_)⟩
    ·have hn:¬(gT S N 1).1=1:=λe=>by rw[e]at hn;simp at hn
     have g3:=p41 S hs (cT S (gT S N 1).2.1).2.1 (cT S (gT S N 1).2.1).2.2;refine⟨_,_,_,_,g3,rfl,.inl rfl,⟨⟨rfl,rfl⟩,rfl⟩,by simp[Jz];omega,?_⟩;repeat (refine And.intro rfl ?_)
     rw[Ac _ (by omega),show((gT S N 1).1==1)=false from beq_eq_false_iff_ne.2 hn,N7];refine⟨⟨rfl,rfl,by omega,_,rfl,by simp;omega,?_⟩,by first|omega|(dsimp only;omega)⟩;rw[hj',tx];by_cases hk:(cT S (gT S N 1).2.1).2.2=0
     ·rw[if_neg (by rw[hk];simp)];by_cases hv:(cT S (cT S (gT S N 1).2.1).2.1).2.2=0
      ·refine .inl ⟨hv,?_⟩;have hu:Po S N = .inr (((cT S (gT S N 1).2.1).1,(cT S (cT S (gT S N 1).2.1).2.1).1,false,()),(cT S (cT S (gT S N 1).2.1).2.1).2.1):=by rw[Po,if_neg (by rw[he];simp),if_neg (by omega),if_neg (by rw[hk];simp),if_neg hn,if_neg (by rw[hv];simp)]
       rw[hU,gY hu]
      ·refine .inr ⟨hv,?_⟩;have hu:Po S N = .inl (cT S (cT S (gT S N 1).2.1).2.1).2.2:=by rw[Po,if_neg (by rw[he];simp),if_neg (by omega),if_neg (by rw[hk];simp),if_neg hn,if_pos hv]
       rw[hU,QI hu];rfl
     ·rw[if_pos hk];refine .inr ⟨hk,?_⟩;have hu:Po S N = .inl (cT S (gT S N 1).2.1).2.2:=by rw[Po,if_neg (by rw[he];simp),if_neg (by omega),if_pos hk]
      rw[hU,QI hu];rfl
    ·have hn:(gT S N 1).1=1:=by simpa using hn
     refine⟨rfl,.inl rfl,⟨⟨rfl,rfl⟩,rfl⟩,by simp[Jz];omega,?_⟩;repeat (refine And.intro rfl ?_)
     rw[Ac _ (by omega),show((gT S N 1).1==1)=true by rw[hn];rfl,N7];refine⟨⟨rfl,rfl,by omega,_,rfl,by simp;omega,?_⟩,by first|omega|(dsimp only;omega)⟩;rw[hj'];by_cases hk:(cT S (gT S N 1).2.1).2.2=0
     ·refine .inl ⟨hk,?_⟩;have hu:Po S N = .inr (((cT S (gT S N 1).2.1).1,Ar,true,()),(cT S (gT S N 1).2.1).2.1):=by rw[Po,if_neg (by rw[he];simp),if_neg (by omega),if_neg (by rw[hk];simp),if_pos hn]
      rw[hU,gY hu];rfl
     ·refine .inr ⟨hk,?_⟩;have hu:Po S N = .inl (cT S (gT S N 1).2.1).2.2:=by rw[Po,if_neg (by rw[he];simp),if_neg (by omega),if_pos hk]
      rw[hU,QI hu];rfl
   ·have he:(gT S N 1).2.2≠0:=λe=>by rw[e]at he;cases he
    have hg0:=pJ he;have g2:=p41 S hs (gT S N 1).2.1 (gT S N 1).2.2;rw[show tx S (gT S N 1).2.1 (gT S N 1).2.2=(Ar,(gT S N 1).2.1,(gT S N 1).2.2) from if_pos he]at g2;rw[hg0];refine⟨_,_,_,_,g2,Aa (λhn=>?_) (λhn=>by cases hn)⟩;refine⟨_,_,_,_,g2,rfl,.inl rfl,⟨⟨rfl,rfl⟩,rfl⟩,by simp[Jz];omega,?_⟩;repeat (refine And.intro rfl ?_)
    rw[Ac _ (by omega),N7];refine⟨⟨rfl,rfl,by omega,_,rfl,by simp;omega,.inr ⟨he,?_⟩⟩,by first|omega|(dsimp only;omega)⟩;have hu:Po S N = .inl (gT S N 1).2.2:=by rw[Po,if_pos he]
    rw[hU,QI hu];rfl
  ·have hE':E≠0:=λe=>by rw[e]at hE;cases hE
   rcases hinv with⟨h1,_⟩|⟨_,h2⟩
   ·exact absurd h1 hE'
   refine Aa (λhb=>by rw[h2];rfl) (λhb=>absurd (by simpa using hb) hE')
 ·refine Aa (λhb=>?_) (λhb=>?_)
  ·rcases hinv with⟨h1,_⟩|⟨_,h2⟩
   ·rw[h1]at hb;cases hb
   ·rw[h2];rfl
  ·have hE:E=0:=by simpa using hb
   rcases hinv with⟨_,h2⟩|⟨h1,_⟩
   ·rw[h2,show i.toNat=0 by omega,Ss,QA];refine Aa (λhn=>by rw[if_pos (by simpa using hn)];rfl) (λhn=>?_);rw[if_neg (by simpa using hn)];refine⟨rfl,_,AFt l (by omega),Aa (λha=>by rw[if_pos ha];rfl) (λha=>?_)⟩;rw[if_neg (by rw[ha];simp)];exact⟨rfl,rfl⟩
   ·exact absurd hE h1
theorem N9 (s:bA):∃l e,CZ s = .tup [.o (.sl 3 (ck l)),aI e]/\l.length<=255:=by
 have un:∀(n:Nat) a l,match Ss s n a l with | .inl _=>True | .inr (l',_)=>l'.length=l.length+n:=λn=>by
  induction n with
  | zero=>intro a l;simp[Ss]
  | succ n ih=>
   intro a l;rw[Ss]
   cases h:Po s a with
   | inl e=>trivial
   | inr x=>
    obtain⟨c,a'⟩:=x;have:=ih a' (l++[c]);revert this;dsimp only
    cases Ss s n a' (l++[c]) with
    | inl e=>exact λ_=>trivial
    | inr y=>intro h2;simp at h2 |-;omega
 rw[CZ];split;·exact⟨[],2,rfl,by simp⟩
 split;·exact⟨[],_,rfl,by simp⟩
 have h:=un (gT s 0 1).1.toNat (gT s 0 1).2.1 [];have hb:=KJ s 0
 cases hu:Ss s (gT s 0 1).1.toNat (gT s 0 1).2.1 [] with
 | inl e=>exact⟨[],e,rfl,by simp⟩
 | inr x=>
  obtain⟨l,a⟩:=x;rw[hu]at h;simp at h;rw[QA];split;·exact⟨[],4,rfl,by simp⟩
  split;·exact⟨[],4,rfl,by simp⟩
  ·exact⟨l,0,rfl,by omega⟩
end Go.Proofs.YtjmpnbbeplgchabGreatDoor.M
