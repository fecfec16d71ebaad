import Derived.Test.YtjmpnbbeplgchabGreatDoorR6Dv
import Derived.Test.YtjmpnbbeplgchabGreatDoorR6FunB
import Derived.Test.YtjmpnbbeplgchabGreatDoorMirO
namespace Go.Proofs.YtjmpnbbeplgchabGreatDoor.M
set_option linter.unusedVariables false
set_option linter.unusedSimpArgs false
open Go Go.Mir
structure Su where
 g:Int
 r:Int
 m:Int
 z:Int
def Kv:Su:=⟨0,0,0,0⟩
def UO (s:Su):AV := .agg [aI s.g,aI s.r,aI s.m,aI s.z]
def suOK (s:Su):Prop:=1<=s.g/\s.g<=1099511627776/\24<=s.z/\s.z<=2048/\(s.r=0\/10<=s.r/\s.r<s.z)/\10<=s.m/\s.m<s.z/\s.m≠s.r
instance (s:Su):Decidable (suOK s):=by unfold suOK;infer_instance
def suH (s:Su):Heap:=[(10900000,.box [aI s.g,aI s.r,aI s.m,aI s.z])]
theorem ADB (x:Int)(s:Su):Runs Fs 146 [.n (.int .i64 x),.ptr 10900000 0] (suH s) (.n (.bool (decide (10<=x/\x<s.z)))) (suH s):=by
 refine Ci (c:=c146) rfl rfl (by kernel_rfl) ?_;rw[suH,jJ,(qV _ _ _ _ _ _).down];refine Ab (λh=>⟨?_,rfl⟩) (λh=>⟨?_,rfl⟩);·congr 3;simp only[eq_iff_iff];omega
 ·congr 2;rw[decide_eq_false (by omega)]
theorem NB {s:Su}(h:¬suOK s):AV.n (D.bool false) = aB (decide (suOK s)):=by rw[decide_eq_false h]
theorem pZ (s:Su):Runs Fs 109 [UO s] [] (.n (.bool (decide (suOK s)))) []:=by
 refine Ag (c:=c109) rfl rfl ?_;rw[UO,xP,(ABR _ _ _ _ _).down];refine Ab (λh1=>?_) (λh1=>NB (by unfold suOK;omega));refine Ab (λh2=>?_) (λh2=>NB (by unfold suOK;omega));refine Ab (λh3=>?_) (λh3=>NB (by unfold suOK;omega));refine Ab (λh4=>?_) (λh4=>NB (by unfold suOK;omega));have last:(s.r=0\/(10<=s.r/\s.r<s.z))->∃x:Bool,Runs Fs 146 [.n (.int .i64 s.m),.ptr 10900000 0] (suH s) (.n (.bool x)) (suH s)/\Ae x (AV.n (D.bool (s.m != s.r)) = .n (.bool (decide (suOK s)))) (AV.n (D.bool false) = .n (.bool (decide (suOK s)))):=λhr=>by refine⟨_,ADB s.m s,Ab (λh5=>?_) (λh5=>NB (by unfold suOK;omega))⟩;rw[aT];congr 3;simp only[eq_iff_iff];unfold suOK;omega
 refine Aa (λh=>last (.inl (by simpa using h))) (λh=>?_);have h0:s.r≠0:=by simpa using h
 refine⟨_,ADB s.r s,Ab (λh5=>last (.inr h5)) (λh5=>NB (by unfold suOK;omega))⟩
def Ve (s:Su):bA:=Mc [BZ (be s.r 2),BZ (be s.m 2),BZ (be s.z 2)]
def SuS (s:Su):bA:=Cq 4 s.g (Ve s)
def PC (s:Su):AV:=if suOK s then .tup [aS (SuS s),aI 0] else Qc 1
theorem Mx (s:Su):(Ve s).size=6:=by rw[Ve,NP];simp only[Bo,C8]
theorem PS (s:Su):(Ve s).data.toList=Cj s.r 2++(Cj s.m 2++Cj s.z 2):=by rw[Ve,ZI];simp only[C3,DO]
theorem Uq {s:Su}(h:suOK s):pgOK 4 s.g (Ve s):=by have:=Mx s;obtain⟨h1,h2,_⟩:=h;exact⟨by omega,by omega,by omega,h2,by omega⟩
theorem p58 (s:Su):Runs Fs 58 [UO s] [] (PC s) []:=by
 refine Ag (c:=c58) rfl rfl ?_;rw[UO,AJa,(AHs _ _ _ _ _).down];refine⟨_,pZ s,?_⟩;by_cases h:suOK s;·rw[decide_eq_true h];refine Aa (λh=>by cases h) (λ_=>?_);obtain⟨h1,h2,h3,h4,h5,h6,h7,h8⟩:=id h;have g1:=Cr s.r 2 (by omega) (by omega) (by omega) (by simp;omega);have g2:=Cr s.m 2 (by omega) (by omega) (by omega) (by simp;omega);have g3:=Cr s.z 2 (by omega) (by omega) (by omega) (by simp;omega);have g4:=MT [BZ (be s.r 2),BZ (be s.m 2),BZ (be s.z 2)] (by simp) (by simp only[Da,Bo,C8];omega);have g5:=p56 4 s.g (Ve s);rw[J8,if_pos (Uq h)]at g5;refine⟨_,_,g1,_,_,g2,_,_,g3,rfl,_,g4,_,_,g5,?_⟩;rw[PC,if_pos h];rfl
 ·rw[decide_eq_false h];refine Aa (λ_=>?_) (λh=>by cases h);rw[PC,if_neg h];rfl
def Jd (g:Int)(b:bA):Su:=⟨g,Ct (An b 0 2),Ct (An b 2 2),Ct (An b 4 2)⟩
def Xr (p:AV):Su×Int:=
 match p with
 | .tup [.agg [.n (.int _ k),.n (.int _ g),.n (.str b)],.n (.int _ e)]=>
   if e≠0 then (Kv,e) else if k≠4 then (Kv,40) else if b.size≠6 then (Kv,4) else if suOK (Jd g b) then (Jd g b,0) else (Kv,4)
 | _=>(Kv,0)
def SGet (s:bA):Su×Int:=Xr (GetPR s)
def duo (x:Su×Int):AV := .tup [UO x.1,aI x.2]
theorem I4 {e:Int}(he:e≠0):Xr (Ey e)=(Kv,e):=by simp only[Xr,Ey,pg,if_pos he]
theorem KQ (k g:Int)(b:bA):Xr (.tup [pg k g b,aI 0])=if k≠4 then (Kv,40) else if b.size≠6 then (Kv,4) else if suOK (Jd g b) then (Jd g b,0) else (Kv,4):=by simp only[Xr,pg];rw[if_neg (by simp)]
theorem p76 (s:bA)(hs:(s.size:Int)<=9223372036854775807):Runs Fs 76 [aS s] [] (duo (SGet s)) []:=by
 refine Ag (c:=c76) rfl rfl ?_;rewrite[ADO,(AI8 _ _).down,SGet];refine⟨rfl,?_⟩;rcases A6 s with⟨e,he,h⟩|⟨k,g,b,h,hok,_⟩
 ·have g:=KC s hs [4] e he h;rw[h,I4 he];refine⟨_,_,_,_,g,Aa (λ_=>rfl) (λh=>absurd (by simpa using h) he)⟩
 ·have h53:=O2 s hs [4] (by simp) k g b h;rw[h,KQ];by_cases hk:k=4
  ·rw[if_pos (by simp[hk])]at h53;rw[if_neg (by simp[hk])];obtain⟨_,_,_,_,hb⟩:=hok;refine⟨_,_,_,_,h53,Aa (λh=>by cases h) (λ_=>?_)⟩;have short:∀a:Int,a=0\/a=2\/a=4->a<=b.size->¬((b.size:Int)-a<2)\/b.size≠6:=λa ha hab=>by omega
   refine⟨λat_ i _ p q=>0<=i/\i<=3/\at_=2*i/\2*i<=b.size/\p=(k,g,b,())/\q=(g,(if 0<i then Ct (An b 0 2) else 0),(if 1<i then Ct (An b 2 2) else 0),(if 2<i then Ct (An b 4 2) else 0),()),
     λ_ i _ _ _=>(3-i).toNat,⟨rfl,by omega,by omega,by omega,by omega,rfl,rfl⟩,?_⟩
   rintro at_ i q0 p q ⟨h0,h1,rfl,h2,rfl,rfl⟩ _;refine Ab (λhlt=>?_) (λhge=>?_)
   ·have g4:=gW b (by omega) (2*i) 2;refine⟨h0,by omega,?_⟩;have bad:(b.size:Int)-2*i<2->duo (Kv,4)=duo (if b.size≠6 then (Kv,4) else if suOK (Jd g b) then (Jd g b,0) else (Kv,4)):=λhz=>by rw[if_pos (by omega)]
    refine Aa (λhi=>?_) (λhi=>Aa (λhi2=>?_) (λhi2=>Aa (λhi3=>?_) (λhi3=>?_)))
    ·have hi:i=0:=by simpa using hi
     subst hi;by_cases hz:(b.size:Int)-2*0<2;·rw[Cb (by omega) hz]at g4;exact⟨_,_,_,g4,Aa (λ_=>bad hz) (λh=>by cases h)⟩
     ·rw[A9 (by omega) hz]at g4;refine⟨_,_,_,g4,Aa (λh=>by cases h) (λ_=>?_)⟩;repeat (refine And.intro rfl ?_)
      rw[Ac _ (by omega)];exact⟨⟨by omega,by omega,by omega,by omega,rfl,rfl⟩,by dsimp only;omega⟩
    ·have hi2:i=1:=by simpa using hi2
     subst hi2;by_cases hz:(b.size:Int)-2*1<2;·rw[Cb (by omega) hz]at g4;exact⟨_,_,_,g4,Aa (λ_=>bad hz) (λh=>by cases h)⟩
     ·rw[A9 (by omega) hz]at g4;refine⟨_,_,_,g4,Aa (λh=>by cases h) (λ_=>?_)⟩;repeat (refine And.intro rfl ?_)
      rw[Ac _ (by omega)];exact⟨⟨by omega,by omega,by omega,by omega,rfl,rfl⟩,by dsimp only;omega⟩
    ·have hi3:i=2:=by simpa using hi3
     subst hi3;by_cases hz:(b.size:Int)-2*2<2;·rw[Cb (by omega) hz]at g4;exact⟨_,_,_,g4,Aa (λ_=>bad hz) (λh=>by cases h)⟩
     ·rw[A9 (by omega) hz]at g4;refine⟨_,_,_,g4,Aa (λh=>by cases h) (λ_=>?_)⟩;repeat (refine And.intro rfl ?_)
      rw[Ac _ (by omega)];exact⟨⟨by omega,by omega,by omega,by omega,rfl,rfl⟩,by dsimp only;omega⟩
    ·exfalso;have a1:i≠0:=by simpa using hi
     have a2:i≠1:=by simpa using hi2
     have a3:i≠2:=by simpa using hi3
     omega
   ·obtain rfl:i=3:=by omega
    refine Aa (λhne=>?_) (λhne=>?_)
    ·have hne:(2*3:Int)≠b.size:=by simpa using hne
     rw[if_pos (by omega)];rfl
    ·have hne:(2*3:Int)=b.size:=by simpa using hne
     rw[if_neg (show ¬b.size≠6 by omega)];simp only[if_pos (show(0:Int)<3 by decide),if_pos (show(1:Int)<3 by decide),if_pos (show(2:Int)<3 by decide)];refine⟨_,pZ (Jd g b),?_⟩;by_cases hS:suOK (Jd g b);·rw[decide_eq_true hS,if_pos hS];rfl
     ·rw[decide_eq_false hS,if_neg hS];rfl
  ·rw[if_neg (by simp[hk])]at h53;rw[if_pos hk];exact⟨_,_,_,_,h53,Aa (λ_=>rfl) (λh=>by cases h)⟩
theorem Ik (s:bA):((SGet s).2=0/\suOK (SGet s).1)\/((SGet s).2≠0/\(SGet s).1=Kv):=by
 unfold SGet;rcases A6 s with⟨e,he,h⟩|⟨k,g,b,h,hok,_⟩
 ·rw[h,I4 he];exact .inr ⟨he,rfl⟩
 ·rw[h,KQ];split;·exact .inr ⟨by decide,rfl⟩
  split;·exact .inr ⟨by decide,rfl⟩
  split;·rename_i h;exact .inl ⟨rfl,h⟩
  ·exact .inr ⟨by decide,rfl⟩
def RB (l:List bA)(j:Nat):Su×Int:=SGet ((l[j]?).getD Ar)
theorem dX {l:List bA}{j:Nat}(h:j<l.length):RB l j=SGet l[j]:=by unfold RB;rw[gI h];rfl
theorem bT {l:List bA}{j:Nat}(h:(RB l j).2=0):1<=(RB l j).1.g:=by
 rcases Ik ((l[j]?).getD Ar) with⟨_,h2⟩|⟨h1,_⟩
 ·exact h2.1
 ·exact absurd h h1
def Kp (l:List bA)(lo hi:Nat)(b:Su)(a:Int):Prop:=
 (a = -1/\b=Kv/\∀j,lo<=j->j<hi->(RB l j).2≠0) \/
 ∃k:Nat,a=k/\lo<=k/\k<hi/\RB l k=(b,0)/\∀j,lo<=j->j<hi->(RB l j).2=0->(j<k->(RB l j).1.g<b.g)/\(k<j->(RB l j).1.g<=b.g)
theorem U6 (l:List bA)(i:Nat):Kp l i i Kv (-1) := .inl ⟨rfl,rfl,λj h1 h2=>by omega⟩
theorem Nr {l:List bA}{lo i:Nat}{b:Su}{a:Int}(h:Kp l lo i b a)(hn:(RB l i).2≠0\/¬(RB l i).1.g > b.g):Kp l lo (i+1) b a:=by
 rcases h with⟨h1,rfl,h2⟩|⟨k,rfl,h1,h2,h3,h4⟩
 ·refine .inl ⟨h1,rfl,λj hj hj2=>?_⟩;by_cases e:j=i
  ·subst e;rcases hn with hn|hn;·exact hn
   ·intro h0;have:=bT h0;simp only[Kv]at hn;omega
  ·exact h2 j hj (by omega)
 ·refine .inr ⟨k,rfl,h1,by omega,h3,λj hj hj2 h0=>?_⟩;by_cases e:j=i
  ·subst e;refine⟨λh=>by omega,λ_=>?_⟩;rcases hn with hn|hn;·exact absurd h0 hn
   ·omega
  ·exact h4 j hj (by omega) h0
theorem VF {l:List bA}{lo i:Nat}{b:Su}{a:Int}(hlo:lo<=i)(h:Kp l lo i b a)(h0:(RB l i).2=0)(hg:(RB l i).1.g > b.g):Kp l lo (i+1) (RB l i).1 i:=by
 refine .inr ⟨i,rfl,hlo,by omega,?_,λj hj hj2 h0'=>⟨λhji=>?_,λhji=>by omega⟩⟩;·rw[<-h0]
 ·rcases h with⟨h1,rfl,h2⟩|⟨k,rfl,h1,h2,h3,h4⟩
  ·exact absurd h0' (h2 j hj hji)
  ·by_cases e:j=k;·subst e;rw[h3];exact hg
   ·obtain⟨g1,g2⟩:=h4 j hj hji h0';by_cases hlt:j<k;·have:=g1 hlt;omega
    ·have:=g2 (by omega);omega
theorem Xz {l:List bA}{lo hi:Nat}{b b':Su}{a a':Int}(h:Kp l lo hi b a)(h':Kp l lo hi b' a'):b=b'/\a=a':=by
 rcases h with⟨h1,rfl,h2⟩|⟨k,rfl,h1,h2,h3,h4⟩<;>rcases h' with⟨g1,rfl,g2⟩|⟨k',rfl,g1,g2,g3,g4⟩
 ·exact⟨rfl,by omega⟩
 ·exact absurd (by rw[g3]) (h2 k' g1 g2)
 ·exact absurd (by rw[h3]) (g2 k h1 h2)
 ·by_cases e:k=k';·subst e;rw[h3]at g3;simp only[pI,and_true]at g3;exact⟨g3,rfl⟩
  ·exfalso;have p1:=h4 k' g1 g2 (by rw[g3]);have p2:=g4 k h1 h2 (by rw[h3]);rw[g3]at p1;rw[h3]at p2;dsimp only at p1 p2;rcases Nat.lt_or_gt_of_ne e with hlt|hlt;·have:=p1.2 hlt;have:=p2.1 hlt;omega
   ·have:=p1.1 hlt;have:=p2.2 hlt;omega
def JX (b:Su)(a:Int):AV:=if a<0 then .tup [UO Kv,aI 0,aI 120] else .tup [UO b,aI a,aI 0]
theorem nU (s:bA):duo (SGet s) = .tup [.agg [aI (SGet s).1.g,aI (SGet s).1.r,aI (SGet s).1.m,aI (SGet s).1.z],aI (SGet s).2]:=rfl
theorem p35 (l:List bA)(hl:XS l):∃b a,Kp l 0 l.length b a/\Runs Fs 35 [aL (AK l)] [] (JX b a) []:=by
 have key:∃r,Runs Fs 35 [.o (.sl 1 (AK l))] [] r []/\∃b a,r=JX b a/\Kp l 0 l.length b a:=by
  refine DG (R:=λr=>∃b a,r=JX b a/\Kp l 0 l.length b a) (c:=c35) rfl rfl ?_;have hL:=hl.1;rw[AFl,(AJN _ _).down,Al];refine⟨λat_ i q=>0<=i/\i<=l.length/\∃b:Su,q=(b.g,b.r,b.m,b.z,())/\Kp l 0 i.toNat b at_,λ_ i _=>(l.length-i).toNat,⟨rfl,by omega,by omega,Kv,rfl,U6 l 0⟩,?_⟩;rintro at_ i q ⟨h0,h1,b,rfl,hb⟩ _;refine Ab (λh=>?_) (λh=>?_)
  ·have hi:i.toNat<l.length:=by omega
   have g:=p76 l[i.toNat] (hl.2 _ (List.getElem_mem hi));have hs:=dX hi;rw[nU]at g;rw[<-hs]at g;refine⟨rfl,h0,_,A0 hi,_,rfl,_,_,_,_,_,g,?_⟩;have e1:(i+1).toNat=i.toNat+1:=by omega
   refine Aa (λhz=>Ab (λhg=>?_) (λhg=>?_)) (λhz=>?_)
   ·repeat (refine And.intro rfl ?_)
    rw[Ac _ (by omega)];have:=VF (by omega) hb (by simpa using hz) hg;rw[show((i.toNat:Nat):Int)=i by omega]at this;exact⟨⟨by omega,by omega,_,rfl,by rw[e1];exact this⟩,by dsimp only;omega⟩
   ·repeat (refine And.intro rfl ?_)
    rw[Ac _ (by omega)];exact⟨⟨by omega,by omega,b,rfl,by rw[e1];exact Nr hb (.inr hg)⟩,by dsimp only;omega⟩
   ·repeat (refine And.intro rfl ?_)
    rw[Ac _ (by omega)];exact⟨⟨by omega,by omega,b,rfl,by rw[e1];exact Nr hb (.inl (by simpa using hz))⟩,by dsimp only;omega⟩
  ·rw[show i.toNat=l.length by omega]at hb;refine Ab (λhlt=>⟨b,at_,by rw[JX,if_pos hlt];rfl,hb⟩) (λhlt=>⟨b,at_,by rw[JX,if_neg hlt];rfl,hb⟩)
 obtain⟨r,hr,b,a,rfl,hb⟩:=key;exact⟨b,a,hb,hr⟩
theorem XN:(SGet Ar).2≠0:=by
 obtain⟨e,he,h⟩:=QQ;have:SGet Ar=(Kv,e):=by unfold SGet;rw[show Ar=uM from rfl,h,I4 he]
 rw[this];exact he
theorem oH (n:Nat)(k:Int)(hk:0<=k):∃N:Nat,Cs false (n:Int) k=N/\N<=n/\(N:Int)<=k:=by
 unfold Cs;simp only[Bool.false_eq_true,if_false];by_cases h:k<(n:Int);·exact⟨k.toNat,by rw[if_pos h];omega,by omega,by omega⟩
 ·exact⟨n,by rw[if_neg h],by omega,by omega⟩
def uF (b:Su)(a:Int):Su:=if a<0 then Kv else b
def chA (a:Int):Int:=if a<0 then 0 else a
def uO (a:Int):Int:=if a<0 then 120 else 0
theorem YK (b:Su)(a:Int):JX b a = .tup [.agg [aI (uF b a).g,aI (uF b a).r,aI (uF b a).m,aI (uF b a).z],aI (chA a),aI (uO a)]:=by
 unfold JX uF chA uO;by_cases h:a<0;·simp only[if_pos h];rfl
 ·simp only[if_neg h];rfl
theorem Hh {k g:Int}{b:bA}(h:pgOK k g b):GetPR (Cq k g b) = .tup [pg k g b,aI 0]:=
 M9 k g b _ h (by have:=HV k g b h;omega) (by refine AE ?_;rw[AS,Cq,AS,OY])
theorem GX (s:Su):(SuS s).size<=19:=by have:=Dw (Cz (Dv 4 s.g (Ve s)));rw[EC,C7,Mx]at this;exact this
theorem pD {s:Su}(h:suOK s):Jd s.g (Ve s)=s:=by
 obtain⟨h1,h2,h3,h4,h5,h6,h7,h8⟩:=h;have hd:=PS s;have e0:An (Ve s) 0 2=Cj s.r 2:=CJ (A:=[]) (C:=Cj s.m 2++Cj s.z 2) hd rfl (Ap _ _);have e1:An (Ve s) 2 2=Cj s.m 2:=CJ (A:=Cj s.r 2) (C:=Cj s.z 2) hd (Ap _ _) (Ap _ _);have e2:An (Ve s) 4 2=Cj s.z 2:=CJ (A:=Cj s.r 2++Cj s.m 2) (B:=Cj s.z 2) (C:=[]) (by rw[hd];simp only[List.append_assoc,List.append_nil]) (by simp[Ap]) (Ap _ _);have m:∀n:Int,0<=n->n<65536->n % 256 ^ 2=n:=λn a b=>by show n % 65536=n;omega
 unfold Jd;rw[e0,e1,e2,D9,D9,D9,m _ (by omega) (by omega),m _ (by omega) (by omega),m _ (by omega) (by omega)]
theorem Vt {s:Su}(h:suOK s):SGet (SuS s)=(s,0):=by unfold SGet SuS;rw[Hh (Uq h),KQ,if_neg (by simp),if_neg (by rw[Mx];simp),pD h,if_pos h]
theorem Vj {s:bA}(h0:(SGet s).2=0):SuS (SGet s).1=TrimS s:=by
 unfold SGet at h0 |-;rcases A6 s with⟨e,he,h⟩|⟨k,g,b,h,hok,h1,h2,h3,hk,hg,hb,hz⟩
 ·rw[h,I4 he]at h0;exact absurd h0 he
 ·rw[h,KQ]at h0 |-;by_cases k4:k≠4;·rw[if_pos k4]at h0;cases h0
  rw[if_neg k4]at h0 |-;by_cases b6:b.size≠6;·rw[if_pos b6]at h0;cases h0
  rw[if_neg b6]at h0 |-;by_cases hs:suOK (Jd g b)
  ·rw[if_pos hs];have e4:k=4:=by simpa using k4
   have e6:b.size=6:=by simpa using b6
   subst e4;have hl:=Aj b;have eB:Ve (Jd g b)=b:=by
    refine AE ?_;rw[PS];have pl:∀i:Int,0<=i->i<=4->(An b i 2).length=2:=λi a c=>by unfold An;rw[List.length_take,List.length_drop,hl];have:Int.toNat 2=2:=rfl;omega
    have bb:∀i:Int,0<=i->i<=4->Cj (Ct (An b i 2)) 2=An b i 2:=λi a c=>by have:=IX (An b i 2);rw[pl i a c]at this;exact this
    unfold Jd;dsimp only;rw[bb 0 (by omega) (by omega),bb 2 (by omega) (by omega),bb 4 (by omega) (by omega)];unfold An;generalize b.data.toList=t at *;have hl:t.length=6:=by omega
    match t,hl with
    | [a0,a1,a2,a3,a4,a5],_=>rfl
   have e:(Jd g b).g=g:=rfl;unfold SuS;rw[eB,e];exact PJ s 4 g b h1 h2 h3 hk hg hb hz
  ·rw[if_neg hs]at h0;cases h0
def rOK (gen no:Int)(body:bA):Prop:=1<=gen/\gen<=1099511627776/\0<=no/\no<=7/\body.size<=480
def dK (gen no:Int)(body:bA):bA:=Cq 5 gen (RX no body)
theorem Wc {gen no:Int}{body:bA}(h:rOK gen no body):(dK gen no body).size<=494:=by have:=Dw (Cz (Dv 5 gen (RX no body)));rw[EC,C7,M4]at this;have:=h.2.2.2.2;unfold dK Cq;omega
theorem TP {s:bA}{gen:Int}(h:(E0 s gen).2.2=0):0<=(E0 s gen).1/\(E0 s gen).1<=7/\(E0 s gen).2.1.size<=4000:=by
 unfold E0 at h |-;rcases A6 s with⟨e,he,h'⟩|⟨k,g,b,h',hok,_⟩
 ·rw[h',Lo he]at h;exact absurd h he
 ·rw[h',T3]at h |-;by_cases h1:k≠5;·rw[if_pos h1]at h;cases h
  rw[if_neg h1]at h |-;by_cases h2:g≠gen\/b.size<1\/481<b.size\/7<Ct (An b 0 1);·rw[if_pos h2]at h;cases h
  ·rw[if_neg h2];have:=(Eg (An b 0 1)).1;refine⟨this,by omega,?_⟩;show(b.extract 1 b.size).size<=4000;rw[ByteArray.size_extract];omega
def EH (gen:Int):Nat->List bA->List bA
 | _,[]=>[]
 | i,b::r=>if (E0 b gen).2.2=0/\(E0 b gen).1=i then (E0 b gen).2.1::EH gen (i+1) r else []
theorem Y1 (gen:Int)(i:Nat):EH gen i []=[]:=rfl
theorem cO {gen:Int}{i:Nat}{b:bA}{r:List bA}(h:(E0 b gen).2.2=0)(h2:(E0 b gen).1=i):EH gen i (b::r)=(E0 b gen).2.1::EH gen (i+1) r:=by rw[EH,if_pos ⟨h,h2⟩]
theorem Jj {gen:Int}{i:Nat}{b:bA}{r:List bA}(h:(E0 b gen).2.2≠0\/(E0 b gen).1≠i):EH gen i (b::r)=[]:=by rw[EH,if_neg (by rintro⟨h1,h2⟩;rcases h with h|h<;>contradiction)]
theorem pA (x:Int×bA×Int):tri x = .tup [aI x.1,aS x.2.1,aI x.2.2]:=rfl
theorem p38 (gen:Int)(l:List bA)(hl:XS l):Runs Fs 38 [aI gen,aL (AK l)] [] (aL (AK (EH gen 0 l))) []:=by
 refine Ag (c:=c38) rfl rfl ?_;rw[AIQ,(AHH _ _ _).down,Al];have hL:=hl.1;refine⟨λver i row=>0<=i/\i<=l.length/\i<=8/\∃acc:List bA,row=(ver,AK acc)/\(acc.length:Int)=i/\acc++EH gen i.toNat (l.drop i.toNat)=EH gen 0 l,λ_ i _=>(l.length-i).toNat,⟨rfl,by omega,by omega,by omega,[],rfl,by simp,by simp⟩,?_⟩;rintro ver i row ⟨h0,h1,h8,acc,rfl,ha,hinv⟩ _;refine Ab (λh=>?_) (λh=>?_)
 ·have hi:i.toNat<l.length:=by omega
  have g:=p80 l[i.toNat] (hl.2 _ (List.getElem_mem hi)) gen;rw[pA]at g;rw[List.drop_eq_getElem_cons hi]at hinv;refine⟨rfl,h0,_,A0 hi,_,rfl,_,_,_,g,?_⟩;refine Aa (λhe=>⟨rfl,?_⟩) (λhe=>Aa (λhn=>⟨rfl,?_⟩) (λhn=>?_));·rw[Jj (.inl (by simpa using he)),List.append_nil]at hinv;rw[hinv]
  ·rw[Jj (.inr (by
    have:(E0 l[i.toNat] gen).1≠i:=by simpa using hn
    omega)),List.append_nil]at hinv
   rw[hinv]
  ·have he:(E0 l[i.toNat] gen).2.2=0:=by simpa using he
   have hn:(E0 l[i.toNat] gen).1=i:=by simpa using hn
   have h7:=TP he;rw[cO he (by omega)]at hinv;refine⟨rfl,.inl rfl,⟨⟨rfl,rfl⟩,rfl⟩,by simp only[Al,List.length_singleton];omega,?_⟩;repeat (refine And.intro rfl ?_)
   rw[Ac _ (by omega)];refine⟨⟨by omega,by omega,by omega,acc++[(E0 l[i.toNat] gen).2.1],by rw[FV],by simp;omega,?_⟩,by first|omega|(dsimp only;omega)⟩;rw[show(i+1).toNat=i.toNat+1 by omega,<-hinv];simp
 ·rw[List.drop_of_length_le (by omega),Y1,List.append_nil]at hinv;exact⟨rfl,by rw[hinv]⟩
theorem p99 (l:List bA)(hl:(l.length:Int)<=9223372036854775807):Runs Fs 99 [aL (AK l),aL (AK l)] [] (aB true) []:=by
 refine Ag (c:=c99) rfl rfl ?_;rw[AJb,(AIr _ _ _).down,Al];refine Aa (λh=>by simp at h) (λ_=>?_);refine⟨λi=>0<=i/\i<=l.length,λi=>(l.length-i).toNat,⟨rfl,by omega,by omega⟩,?_⟩;rintro i ⟨h0,h1⟩ _;refine Ab (λh=>?_) (λ_=>rfl);have hi:i.toNat<l.length:=by omega
 refine⟨rfl,h0,_,A0 hi,_,rfl,rfl,h0,_,A0 hi,_,rfl,?_⟩;refine Aa (λh=>by simp at h) (λ_=>?_);repeat (refine And.intro rfl ?_)
 rw[Ac _ (by omega)];exact⟨⟨by omega,by omega⟩,by first|omega|(dsimp only;omega)⟩
theorem Q3 (gen:Int):∀(l:List bA) (i:Nat),(EH gen i l).length<=l.length
 | [],i=>by simp[EH]
 | b::r,i=>by
  rw[EH];split;·have:=Q3 gen r (i+1);simp;omega
  ·simp
def rows (gen:Int):Nat->List bA->List bA
 | _,[]=>[]
 | k,b::r=>dK gen k b::rows gen (k+1) r
end Go.Proofs.YtjmpnbbeplgchabGreatDoor.M
