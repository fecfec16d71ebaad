import Derived.Test.YtegndijbpiccgaaGreatDoorR5Dv
namespace Go.Proofs.YtegndijbpiccgaaGreatDoor.M
set_option linter.unusedVariables false
set_option linter.unusedSimpArgs false
open Go Go.Mir
structure Su where
 g:Int
 r:Int
 m:Int
 z:Int
def L9:Su:=⟨0,0,0,0⟩
def Vz (s:Su):AV := .agg [aI s.g,aI s.r,aI s.m,aI s.z]
def suOK (s:Su):Prop:=1<=s.g/\s.g<=1099511627776/\24<=s.z/\s.z<=2048/\(s.r=0\/10<=s.r/\s.r<s.z)/\10<=s.m/\s.m<s.z/\s.m≠s.r
instance (s:Su):Decidable (suOK s):=by unfold suOK;infer_instance
def yD (s:Su):Heap:=[(6600000,.box [aI s.g,aI s.r,aI s.m,aI s.z])]
theorem wK (x:Int)(s:Su):Runs Fs 110 [.n (.int .i64 x),.ptr 6600000 0] (yD s) (.n (.bool (decide (10<=x/\x<s.z)))) (yD s):=by
 refine Ca (c:=c110) rfl rfl (by kernel_rfl) ?_;rw[yD,lA,(kV _ _ _ _ _ _).down];refine Ab (λh=>⟨?_,rfl⟩) (λh=>⟨?_,rfl⟩);·congr 3;simp only[eq_iff_iff];omega
 ·congr 2;rw[decide_eq_false (by omega)]
theorem Nj {s:Su}(h:¬suOK s):AV.n (D.bool false) = aB (decide (suOK s)):=by rw[decide_eq_false h]
theorem p66 (s:Su):Runs Fs 66 [Vz s] [] (.n (.bool (decide (suOK s)))) []:=by
 refine An (c:=c66) rfl rfl ?_;rw[Vz,ADU,(AD0 _ _ _ _ _).down];refine Ab (λh1=>?_) (λh1=>Nj (by unfold suOK;omega));refine Ab (λh2=>?_) (λh2=>Nj (by unfold suOK;omega));refine Ab (λh3=>?_) (λh3=>Nj (by unfold suOK;omega));refine Ab (λh4=>?_) (λh4=>Nj (by unfold suOK;omega));have last:(s.r=0\/(10<=s.r/\s.r<s.z))->∃x:Bool,Runs Fs 110 [.n (.int .i64 s.m),.ptr 6600000 0] (yD s) (.n (.bool x)) (yD s)/\Ae x (AV.n (D.bool (s.m != s.r)) = .n (.bool (decide (suOK s)))) (AV.n (D.bool false) = .n (.bool (decide (suOK s)))):=λhr=>by refine⟨_,wK s.m s,Ab (λh5=>?_) (λh5=>Nj (by unfold suOK;omega))⟩;rw[dU];congr 3;simp only[eq_iff_iff];unfold suOK;omega
 refine Aa (λh=>last (.inl (by simpa using h))) (λh=>?_);have h0:s.r≠0:=by simpa using h
 refine⟨_,wK s.r s,Ab (λh5=>last (.inr h5)) (λh5=>Nj (by unfold suOK;omega))⟩
def VV (s:Su):bA:=MQ [Cy (be s.r 2),Cy (be s.m 2),Cy (be s.z 2)]
def SuS (s:Su):bA:=C6 4 s.g (VV s)
def Q3 (s:Su):AV:=if suOK s then .tup [aS (SuS s),aI 0] else AFB 1
theorem Mf (s:Su):(VV s).size=6:=by rw[VV,Nf];simp only[BR,Eo]
theorem WV (s:Su):(VV s).data.toList=CT s.r 2++(CT s.m 2++CT s.z 2):=by rw[VV,Yk];simp only[Dv,Ew]
theorem S3 {s:Su}(h:suOK s):pgOK 4 s.g (VV s):=by have:=Mf s;obtain⟨h1,h2,_⟩:=h;exact⟨by omega,by omega,by omega,h2,by omega⟩
theorem p38 (s:Su):Runs Fs 38 [Vz s] [] (Q3 s) []:=by
 refine An (c:=c38) rfl rfl ?_;rw[Vz,AG5,(AC0 _ _ _ _ _).down];refine⟨_,p66 s,?_⟩;by_cases h:suOK s;·rw[decide_eq_true h];refine Aa (λh=>by cases h) (λ_=>?_);obtain⟨h1,h2,h3,h4,h5,h6,h7,h8⟩:=id h;have g1:=DV s.r 2 (by omega) (by omega) (by omega) (by simp;omega);have g2:=DV s.m 2 (by omega) (by omega) (by omega) (by simp;omega);have g3:=DV s.z 2 (by omega) (by omega) (by omega) (by simp;omega);have g4:=mA [Cy (be s.r 2),Cy (be s.m 2),Cy (be s.z 2)] (by simp) (by simp only[Ef,BR,Eo];omega);have g5:=p36 4 s.g (VV s);rw[L5,if_pos (S3 h)]at g5;refine⟨_,_,g1,_,_,g2,_,_,g3,rfl,_,g4,_,_,g5,?_⟩;rw[Q3,if_pos h];rfl
 ·rw[decide_eq_false h];refine Aa (λ_=>?_) (λh=>by cases h);rw[Q3,if_neg h];rfl
def M4 (g:Int)(b:bA):Su:=⟨g,CN (Ar b 0 2),CN (Ar b 2 2),CN (Ar b 4 2)⟩
def WB (p:AV):Su×Int:=
 match p with
 | .tup [.agg [.n (.int _ k),.n (.int _ g),.n (.str b)],.n (.int _ e)]=>
   if e≠0 then (L9,e) else if k≠4 then (L9,40) else if b.size≠6 then (L9,4) else if suOK (M4 g b) then (M4 g b,0) else (L9,4)
 | _=>(L9,0)
def SGet (s:bA):Su×Int:=WB (GetPR s)
def duo (x:Su×Int):AV := .tup [Vz x.1,aI x.2]
theorem La {e:Int}(he:e≠0):WB (EN e)=(L9,e):=by simp only[WB,EN,pg,if_pos he]
theorem Oy (k g:Int)(b:bA):WB (.tup [pg k g b,aI 0])=if k≠4 then (L9,40) else if b.size≠6 then (L9,4) else if suOK (M4 g b) then (M4 g b,0) else (L9,4):=by simp only[WB,pg];rw[if_neg (by simp)]
theorem p89 (s:bA)(hs:(s.size:Int)<=9223372036854775807):Runs Fs 89 [aS s] [] (duo (SGet s)) []:=by
 refine An (c:=c89) rfl rfl ?_;rewrite[ACF,(ACo _ _).down,SGet];refine⟨rfl,?_⟩;rcases A7 s with⟨e,he,h⟩|⟨k,g,b,h,hok,_⟩
 ·have g:=KG s hs [4] e he h;rw[h,La he];refine⟨_,_,_,_,g,Aa (λ_=>rfl) (λh=>absurd (by simpa using h) he)⟩
 ·have h53:=OO s hs [4] (by simp) k g b h;rw[h,Oy];by_cases hk:k=4
  ·rw[if_pos (by simp[hk])]at h53;rw[if_neg (by simp[hk])];obtain⟨_,_,_,_,hb⟩:=hok;refine⟨_,_,_,_,h53,Aa (λh=>by cases h) (λ_=>?_)⟩;have short:∀a:Int,a=0\/a=2\/a=4->a<=b.size->¬((b.size:Int)-a<2)\/b.size≠6:=λa ha hab=>by omega
   refine⟨λat_ i _ p q=>0<=i/\i<=3/\at_=2*i/\2*i<=b.size/\p=(k,g,b,())/\q=(g,(if 0<i then CN (Ar b 0 2) else 0),(if 1<i then CN (Ar b 2 2) else 0),(if 2<i then CN (Ar b 4 2) else 0),()),
     λ_ i _ _ _=>(3-i).toNat,⟨rfl,by omega,by omega,by omega,by omega,rfl,rfl⟩,?_⟩
   rintro at_ i q0 p q ⟨h0,h1,rfl,h2,rfl,rfl⟩ _;refine Ab (λhlt=>?_) (λhge=>?_)
   ·have g4:=SP b (by omega) (2*i) 2;refine⟨h0,by omega,?_⟩;have bad:(b.size:Int)-2*i<2->duo (L9,4)=duo (if b.size≠6 then (L9,4) else if suOK (M4 g b) then (M4 g b,0) else (L9,4)):=λhz=>by rw[if_pos (by omega)]
    refine Aa (λhi=>?_) (λhi=>Aa (λhi2=>?_) (λhi2=>Aa (λhi3=>?_) (λhi3=>?_)))
    ·have hi:i=0:=by simpa using hi
     subst hi;by_cases hz:(b.size:Int)-2*0<2;·rw[CA (by omega) hz]at g4;exact⟨_,_,_,g4,Aa (λ_=>bad hz) (λh=>by cases h)⟩
     ·rw[Bj (by omega) hz]at g4;refine⟨_,_,_,g4,Aa (λh=>by cases h) (λ_=>?_)⟩;repeat (refine And.intro rfl ?_)
      rw[Ad _ (by omega)];exact⟨⟨by omega,by omega,by omega,by omega,rfl,rfl⟩,by dsimp only;omega⟩
    ·have hi2:i=1:=by simpa using hi2
     subst hi2;by_cases hz:(b.size:Int)-2*1<2;·rw[CA (by omega) hz]at g4;exact⟨_,_,_,g4,Aa (λ_=>bad hz) (λh=>by cases h)⟩
     ·rw[Bj (by omega) hz]at g4;refine⟨_,_,_,g4,Aa (λh=>by cases h) (λ_=>?_)⟩;repeat (refine And.intro rfl ?_)
      rw[Ad _ (by omega)];exact⟨⟨by omega,by omega,by omega,by omega,rfl,rfl⟩,by dsimp only;omega⟩
    ·have hi3:i=2:=by simpa using hi3
     subst hi3;by_cases hz:(b.size:Int)-2*2<2;·rw[CA (by omega) hz]at g4;exact⟨_,_,_,g4,Aa (λ_=>bad hz) (λh=>by cases h)⟩
     ·rw[Bj (by omega) hz]at g4;refine⟨_,_,_,g4,Aa (λh=>by cases h) (λ_=>?_)⟩;repeat (refine And.intro rfl ?_)
      rw[Ad _ (by omega)];exact⟨⟨by omega,by omega,by omega,by omega,rfl,rfl⟩,by dsimp only;omega⟩
    ·exfalso;have a1:i≠0:=by simpa using hi
     have a2:i≠1:=by simpa using hi2
     have a3:i≠2:=by simpa using hi3
     omega
   ·obtain rfl:i=3:=by omega
    refine Aa (λhne=>?_) (λhne=>?_)
    ·have hne:(2*3:Int)≠b.size:=by simpa using hne
     rw[if_pos (by omega)];rfl
    ·have hne:(2*3:Int)=b.size:=by simpa using hne
     rw[if_neg (show ¬b.size≠6 by omega)];simp only[if_pos (show(0:Int)<3 by decide),if_pos (show(1:Int)<3 by decide),if_pos (show(2:Int)<3 by decide)];refine⟨_,p66 (M4 g b),?_⟩;by_cases hS:suOK (M4 g b);·rw[decide_eq_true hS,if_pos hS];rfl
     ·rw[decide_eq_false hS,if_neg hS];rfl
  ·rw[if_neg (by simp[hk])]at h53;rw[if_pos hk];exact⟨_,_,_,_,h53,Aa (λ_=>rfl) (λh=>by cases h)⟩
theorem Ij (s:bA):((SGet s).2=0/\suOK (SGet s).1)\/((SGet s).2≠0/\(SGet s).1=L9):=by
 unfold SGet;rcases A7 s with⟨e,he,h⟩|⟨k,g,b,h,hok,_⟩
 ·rw[h,La he];exact .inr ⟨he,rfl⟩
 ·rw[h,Oy];split;·exact .inr ⟨by decide,rfl⟩
  split;·exact .inr ⟨by decide,rfl⟩
  split;·rename_i h;exact .inl ⟨rfl,h⟩
  ·exact .inr ⟨by decide,rfl⟩
def Rx (l:List bA)(j:Nat):Su×Int:=SGet ((l[j]?).getD empS)
theorem aO {l:List bA}{j:Nat}(h:j<l.length):Rx l j=SGet l[j]:=by unfold Rx;rw[gI h];rfl
theorem fC {l:List bA}{j:Nat}(h:(Rx l j).2=0):1<=(Rx l j).1.g:=by
 rcases Ij ((l[j]?).getD empS) with⟨_,h2⟩|⟨h1,_⟩
 ·exact h2.1
 ·exact absurd h h1
def Ko (l:List bA)(lo hi:Nat)(b:Su)(a:Int):Prop:=
 (a = -1/\b=L9/\∀j,lo<=j->j<hi->(Rx l j).2≠0) \/
 ∃k:Nat,a=k/\lo<=k/\k<hi/\Rx l k=(b,0)/\∀j,lo<=j->j<hi->(Rx l j).2=0->(j<k->(Rx l j).1.g<b.g)/\(k<j->(Rx l j).1.g<=b.g)
theorem Uy (l:List bA)(i:Nat):Ko l i i L9 (-1) := .inl ⟨rfl,rfl,λj h1 h2=>by omega⟩
theorem Nu {l:List bA}{lo i:Nat}{b:Su}{a:Int}(h:Ko l lo i b a)(hn:(Rx l i).2≠0\/¬(Rx l i).1.g > b.g):Ko l lo (i+1) b a:=by
 rcases h with⟨h1,rfl,h2⟩|⟨k,rfl,h1,h2,h3,h4⟩
 ·refine .inl ⟨h1,rfl,λj hj hj2=>?_⟩;by_cases e:j=i
  ·subst e;rcases hn with hn|hn;·exact hn
   ·intro h0;have:=fC h0;simp only[L9]at hn;omega
  ·exact h2 j hj (by omega)
 ·refine .inr ⟨k,rfl,h1,by omega,h3,λj hj hj2 h0=>?_⟩;by_cases e:j=i
  ·subst e;refine⟨λh=>by omega,λ_=>?_⟩;rcases hn with hn|hn;·exact absurd h0 hn
   ·omega
  ·exact h4 j hj (by omega) h0
theorem UR {l:List bA}{lo i:Nat}{b:Su}{a:Int}(hlo:lo<=i)(h:Ko l lo i b a)(h0:(Rx l i).2=0)(hg:(Rx l i).1.g > b.g):Ko l lo (i+1) (Rx l i).1 i:=by
 refine .inr ⟨i,rfl,hlo,by omega,?_,λj hj hj2 h0'=>⟨λhji=>?_,λhji=>by omega⟩⟩;·rw[<-h0]
 ·rcases h with⟨h1,rfl,h2⟩|⟨k,rfl,h1,h2,h3,h4⟩
  ·exact absurd h0' (h2 j hj hji)
  ·by_cases e:j=k;·subst e;rw[h3];exact hg
   ·obtain⟨g1,g2⟩:=h4 j hj hji h0';by_cases hlt:j<k;·have:=g1 hlt;omega
    ·have:=g2 (by omega);omega
theorem YL {l:List bA}{lo hi:Nat}{b b':Su}{a a':Int}(h:Ko l lo hi b a)(h':Ko l lo hi b' a'):b=b'/\a=a':=by
 rcases h with⟨h1,rfl,h2⟩|⟨k,rfl,h1,h2,h3,h4⟩<;>rcases h' with⟨g1,rfl,g2⟩|⟨k',rfl,g1,g2,g3,g4⟩
 ·exact⟨rfl,by omega⟩
 ·exact absurd (by rw[g3]) (h2 k' g1 g2)
 ·exact absurd (by rw[h3]) (g2 k h1 h2)
 ·by_cases e:k=k';·subst e;rw[h3]at g3;simp only[pI,and_true]at g3;exact⟨g3,rfl⟩
  ·exfalso;have p1:=h4 k' g1 g2 (by rw[g3]);have p2:=g4 k h1 h2 (by rw[h3]);rw[g3]at p1;rw[h3]at p2;dsimp only at p1 p2;rcases Nat.lt_or_gt_of_ne e with hlt|hlt;·have:=p1.2 hlt;have:=p2.1 hlt;omega
   ·have:=p1.1 hlt;have:=p2.2 hlt;omega
def Kc (b:Su)(a:Int):AV:=if a<0 then .tup [Vz L9,aI 0,aI 120] else .tup [Vz b,aI a,aI 0]
theorem oZ (s:bA):duo (SGet s) = .tup [.agg [aI (SGet s).1.g,aI (SGet s).1.r,aI (SGet s).1.m,aI (SGet s).1.z],aI (SGet s).2]:=rfl
theorem p42 (l:List bA)(hl:fO l):∃b a,Ko l 0 l.length b a/\Runs Fs 42 [aL (AG l)] [] (Kc b a) []:=by
 have key:∃r,Runs Fs 42 [.o (.sl 1 (AG l))] [] r []/\∃b a,r=Kc b a/\Ko l 0 l.length b a:=by
  refine F0 (R:=λr=>∃b a,r=Kc b a/\Ko l 0 l.length b a) (c:=c42) rfl rfl ?_;have hL:=hl.1;rw[AFU,(AD8 _ _).down,Am];refine⟨λat_ i q=>0<=i/\i<=l.length/\∃b:Su,q=(b.g,b.r,b.m,b.z,())/\Ko l 0 i.toNat b at_,λ_ i _=>(l.length-i).toNat,⟨rfl,by omega,by omega,L9,rfl,Uy l 0⟩,?_⟩;rintro at_ i q ⟨h0,h1,b,rfl,hb⟩ _;refine Ab (λh=>?_) (λh=>?_)
  ·have hi:i.toNat<l.length:=by omega
   have g:=p89 l[i.toNat] (hl.2 _ (List.getElem_mem hi));have hs:=aO hi;rw[oZ]at g;rw[<-hs]at g;refine⟨rfl,h0,_,AZ hi,_,rfl,_,_,_,_,_,g,?_⟩;have e1:(i+1).toNat=i.toNat+1:=by omega
   refine Aa (λhz=>Ab (λhg=>?_) (λhg=>?_)) (λhz=>?_)
   ·repeat (refine And.intro rfl ?_)
    rw[Ad _ (by omega)];have:=UR (by omega) hb (by simpa using hz) hg;rw[show((i.toNat:Nat):Int)=i by omega]at this;exact⟨⟨by omega,by omega,_,rfl,by rw[e1];exact this⟩,by dsimp only;omega⟩
   ·repeat (refine And.intro rfl ?_)
    rw[Ad _ (by omega)];exact⟨⟨by omega,by omega,b,rfl,by rw[e1];exact Nu hb (.inr hg)⟩,by dsimp only;omega⟩
   ·repeat (refine And.intro rfl ?_)
    rw[Ad _ (by omega)];exact⟨⟨by omega,by omega,b,rfl,by rw[e1];exact Nu hb (.inl (by simpa using hz))⟩,by dsimp only;omega⟩
  ·rw[show i.toNat=l.length by omega]at hb;refine Ab (λhlt=>⟨b,at_,by rw[Kc,if_pos hlt];rfl,hb⟩) (λhlt=>⟨b,at_,by rw[Kc,if_neg hlt];rfl,hb⟩)
 obtain⟨r,hr,b,a,rfl,hb⟩:=key;exact⟨b,a,hb,hr⟩
theorem WG:(SGet empS).2≠0:=by
 obtain⟨e,he,h⟩:=QA;have:SGet empS=(L9,e):=by unfold SGet;rw[show empS=sA from rfl,h,La he]
 rw[this];exact he
theorem X4 (n:Nat)(k:Int)(hk:0<=k):∃N:Nat,Ck false (n:Int) k=N/\N<=n/\(N:Int)<=k:=by
 unfold Ck;simp only[Bool.false_eq_true,if_false];by_cases h:k<(n:Int);·exact⟨k.toNat,by rw[if_pos h];omega,by omega,by omega⟩
 ·exact⟨n,by rw[if_neg h],by omega,by omega⟩
def sG (b:Su)(a:Int):Su:=if a<0 then L9 else b
def chA (a:Int):Int:=if a<0 then 0 else a
def sM (a:Int):Int:=if a<0 then 120 else 0
theorem Zf (b:Su)(a:Int):Kc b a = .tup [.agg [aI (sG b a).g,aI (sG b a).r,aI (sG b a).m,aI (sG b a).z],aI (chA a),aI (sM a)]:=by
 unfold Kc sG chA sM;by_cases h:a<0;·simp only[if_pos h];rfl
 ·simp only[if_neg h];rfl
theorem JR {k g:Int}{b:bA}(h:pgOK k g b):GetPR (C6 k g b) = .tup [pg k g b,aI 0]:=
 Nl k g b _ h (by have:=Il k g b h;omega) (by refine AQ ?_;rw[Bp,C6,Bp,Oo])
theorem FO (s:Su):(SuS s).size<=19:=by have:=H5 (CP (Ec 4 s.g (VV s)));rw[Ge,Du,Mf]at this;exact this
theorem jS {s:Su}(h:suOK s):M4 s.g (VV s)=s:=by
 obtain⟨h1,h2,h3,h4,h5,h6,h7,h8⟩:=h;have hd:=WV s;have e0:Ar (VV s) 0 2=CT s.r 2:=CH (A:=[]) (C:=CT s.m 2++CT s.z 2) hd rfl (Ap _ _);have e1:Ar (VV s) 2 2=CT s.m 2:=CH (A:=CT s.r 2) (C:=CT s.z 2) hd (Ap _ _) (Ap _ _);have e2:Ar (VV s) 4 2=CT s.z 2:=CH (A:=CT s.r 2++CT s.m 2) (B:=CT s.z 2) (C:=[]) (by rw[hd];simp only[List.append_assoc,List.append_nil]) (by simp[Ap]) (Ap _ _);have m:∀n:Int,0<=n->n<65536->n % 256 ^ 2=n:=λn a b=>by show n % 65536=n;omega
 unfold M4;rw[e0,e1,e2,Eh,Eh,Eh,m _ (by omega) (by omega),m _ (by omega) (by omega),m _ (by omega) (by omega)]
theorem NX {s:Su}(h:suOK s):SGet (SuS s)=(s,0):=by unfold SGet SuS;rw[JR (S3 h),Oy,if_neg (by simp),if_neg (by rw[Mf];simp),jS h,if_pos h]
def AGI (gen no:Int)(body:bA):bA:=C6 5 gen (AE2 no body)
theorem cJ {s:bA}{gen:Int}(h:(E8 s gen).2.2=0):0<=(E8 s gen).1/\(E8 s gen).1<=7/\(E8 s gen).2.1.size<=4000:=by
 unfold E8 at h |-;rcases A7 s with⟨e,he,h'⟩|⟨k,g,b,h',hok,_⟩
 ·rw[h',Mp he]at h;exact absurd h he
 ·rw[h',Ua]at h |-;by_cases h1:k≠5;·rw[if_pos h1]at h;cases h
  rw[if_neg h1]at h |-;by_cases h2:g≠gen\/b.size<1\/481<b.size\/7<CN (Ar b 0 1);·rw[if_pos h2]at h;cases h
  ·rw[if_neg h2];have:=(Fp (Ar b 0 1)).1;refine⟨this,by omega,?_⟩;show(b.extract 1 b.size).size<=4000;rw[ByteArray.size_extract];omega
def Iq (gen:Int):Nat->List bA->List bA
 | _,[]=>[]
 | i,b::r=>if (E8 b gen).2.2=0/\(E8 b gen).1=i then (E8 b gen).2.1::Iq gen (i+1) r else []
theorem ZJ (gen:Int)(i:Nat):Iq gen i []=[]:=rfl
theorem eU {gen:Int}{i:Nat}{b:bA}{r:List bA}(h:(E8 b gen).2.2=0)(h2:(E8 b gen).1=i):Iq gen i (b::r)=(E8 b gen).2.1::Iq gen (i+1) r:=by rw[Iq,if_pos ⟨h,h2⟩]
theorem JD {gen:Int}{i:Nat}{b:bA}{r:List bA}(h:(E8 b gen).2.2≠0\/(E8 b gen).1≠i):Iq gen i (b::r)=[]:=by rw[Iq,if_neg (by rintro⟨h1,h2⟩;rcases h with h|h<;>contradiction)]
theorem nL (x:Int×bA×Int):tri x = .tup [aI x.1,aS x.2.1,aI x.2.2]:=rfl
theorem p45 (gen:Int)(l:List bA)(hl:fO l):Runs Fs 45 [aI gen,aL (AG l)] [] (aL (AG (Iq gen 0 l))) []:=by
 refine An (c:=c45) rfl rfl ?_;rw[ACL,(ADe _ _ _).down,Am];have hL:=hl.1;refine⟨λver i row=>0<=i/\i<=l.length/\i<=8/\∃acc:List bA,row=(ver,AG acc)/\(acc.length:Int)=i/\acc++Iq gen i.toNat (l.drop i.toNat)=Iq gen 0 l,λ_ i _=>(l.length-i).toNat,⟨rfl,by omega,by omega,by omega,[],rfl,by simp,by simp⟩,?_⟩;rintro ver i row ⟨h0,h1,h8,acc,rfl,ha,hinv⟩ _;refine Ab (λh=>?_) (λh=>?_)
 ·have hi:i.toNat<l.length:=by omega
  have g:=p93 l[i.toNat] (hl.2 _ (List.getElem_mem hi)) gen;rw[nL]at g;rw[List.drop_eq_getElem_cons hi]at hinv;refine⟨rfl,h0,_,AZ hi,_,rfl,_,_,_,g,?_⟩;refine Aa (λhe=>⟨rfl,?_⟩) (λhe=>Aa (λhn=>⟨rfl,?_⟩) (λhn=>?_));·rw[JD (.inl (by simpa using he)),List.append_nil]at hinv;rw[hinv]
  ·rw[JD (.inr (by
    have:(E8 l[i.toNat] gen).1≠i:=by simpa using hn
    omega)),List.append_nil]at hinv
   rw[hinv]
  ·have he:(E8 l[i.toNat] gen).2.2=0:=by simpa using he
   have hn:(E8 l[i.toNat] gen).1=i:=by simpa using hn
   have h7:=cJ he;rw[eU he (by omega)]at hinv;refine⟨rfl,.inl rfl,⟨⟨rfl,rfl⟩,rfl⟩,by simp only[Am,List.length_singleton];omega,?_⟩;repeat (refine And.intro rfl ?_)
   rw[Ad _ (by omega)];refine⟨⟨by omega,by omega,by omega,acc++[(E8 l[i.toNat] gen).2.1],by rw[ES],by simp;omega,?_⟩,by first|omega|(dsimp only;omega)⟩;rw[show(i+1).toNat=i.toNat+1 by omega,<-hinv];simp
 ·rw[List.drop_of_length_le (by omega),ZJ,List.append_nil]at hinv;exact⟨rfl,by rw[hinv]⟩
theorem p50 (l:List bA)(hl:(l.length:Int)<=9223372036854775807):Runs Fs 50 [aL (AG l),aL (AG l)] [] (aB true) []:=by
 refine An (c:=c50) rfl rfl ?_;rw[AFp,(AGP _ _ _).down,Am];refine Aa (λh=>by simp at h) (λ_=>?_);refine⟨λi=>0<=i/\i<=l.length,λi=>(l.length-i).toNat,⟨rfl,by omega,by omega⟩,?_⟩;rintro i ⟨h0,h1⟩ _;refine Ab (λh=>?_) (λ_=>rfl);have hi:i.toNat<l.length:=by omega
 refine⟨rfl,h0,_,AZ hi,_,rfl,rfl,h0,_,AZ hi,_,rfl,?_⟩;refine Aa (λh=>by simp at h) (λ_=>?_);repeat (refine And.intro rfl ?_)
 rw[Ad _ (by omega)];exact⟨⟨by omega,by omega⟩,by first|omega|(dsimp only;omega)⟩
def rows (gen:Int):Nat->List bA->List bA
 | _,[]=>[]
 | k,b::r=>AGI gen k b::rows gen (k+1) r
end Go.Proofs.YtegndijbpiccgaaGreatDoor.M
