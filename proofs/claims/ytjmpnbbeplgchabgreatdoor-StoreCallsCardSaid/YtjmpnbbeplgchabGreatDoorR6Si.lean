import Derived.Test.YtjmpnbbeplgchabGreatDoorR6SV
import Derived.Test.YtjmpnbbeplgchabGreatDoorR6FunB
import Derived.Test.YtjmpnbbeplgchabGreatDoorR6LV
import Derived.Test.YtjmpnbbeplgchabGreatDoorR6PW
import Derived.Test.YtjmpnbbeplgchabGreatDoorR6Sd
import Derived.Test.YtjmpnbbeplgchabGreatDoorR6ScanQ
import Derived.Test.YtjmpnbbeplgchabGreatDoorMirN
import Derived.Test.YtjmpnbbeplgchabGreatDoorMirO
namespace Go.Proofs.YtjmpnbbeplgchabGreatDoor.M
set_option linter.unusedVariables false
set_option linter.unusedSimpArgs false
open Go Go.Mir
abbrev QZ (a:Bool):=
 Runs AT 7 [] [] (aB a) []
abbrev OR (b:AV->Prop):=
 ∃a:Bool,QZ a/\b (.n (.bool a))
abbrev lH (E p:Int)(i G A:LD)(z:Int)(s n:LD)(w k j C m q:Int)(v l x:LD)(B u t F:Int)(a:HT)(b c d:LD)(e g:Int)(y:(Int->(Int->(HT->Prop))))(f:Int)(h:(Int->(Int->(HT->Nat))))(r:Int):=
 rq (aI E)/\rq (.ptr 300000 0)/\rq (.ptr 300305 0)/\rq (aI p)/\rq (.ptr 300406 0)/\rq (aL i)/\E5 i/\rh [hB 300000 [aL G,.o (D.sl 2 A),aI z],hB 300305 [aL s,.o (D.sl 2 n),aI w,aI k,aI j,aI C,aI m,aI q,aL v,aL l,aL x,aI B,aI u,aI t,aI F],hB 300406 [aI a.1,aI a.2.1,aI a.2.2.1,aI a.2.2.2.1,aI a.2.2.2.2.1,aL b,aL c,aL d,aI e,aI g,aL a.2.2.2.2.2.2.2.2.2.2.1]]/\y 120 (wI (f+1)) (a.1,a.2.1,a.2.2.1,a.2.2.2.1,a.2.2.2.2.1,b,c,d,e,g,a.2.2.2.2.2.2.2.2.2.2.1,())/\((h 120 (wI (f+1)) (a.1,a.2.1,a.2.2.1,a.2.2.2.1,a.2.2.2.2.1,b,c,d,e,g,a.2.2.2.2.2.2.2.2.2.2.1,())):Nat)<h r f a
abbrev lM (E q:Int)(j G A:LD)(z:Int)(s p:LD)(w l k C n r:Int)(v m x:LD)(B u t F:Int)(a:HT)(c d e:LD)(f h:Int)(y:(Int->(Int->(HT->Prop))))(g b:Int)(i:(Int->(Int->(HT->Nat)))):=
 rq (aI E)/\rq (.ptr 300000 0)/\rq (.ptr 300305 0)/\rq (aI q)/\rq (.ptr 300406 0)/\rq (aL j)/\E5 j/\rh [hB 300000 [aL G,.o (D.sl 2 A),aI z],hB 300305 [aL s,.o (D.sl 2 p),aI w,aI l,aI k,aI C,aI n,aI r,aL v,aL m,aL x,aI B,aI u,aI t,aI F],hB 300406 [aI a.1,aI a.2.1,aI a.2.2.1,aI a.2.2.2.1,aI a.2.2.2.2.1,aL c,aL d,aL e,aI f,aI h,aL a.2.2.2.2.2.2.2.2.2.2.1]]/\y g (wI (b+1)) (a.1,a.2.1,a.2.2.1,a.2.2.2.1,a.2.2.2.2.1,c,d,e,f,h,a.2.2.2.2.2.2.2.2.2.2.1,())/\((i g (wI (b+1)) (a.1,a.2.1,a.2.2.1,a.2.2.2.1,a.2.2.2.2.1,c,d,e,f,h,a.2.2.2.2.2.2.2.2.2.2.1,())):Nat)<i g b a
abbrev SX (g j:LD)(m q i e b k:Int)(n d a:LD)(p h l c:Int)(f:Bool):=
 Runs AT 13 [Bz g j m q i e b k n d a p h l c,.agg [aL [],.o (D.sl 2 []),aI 0,aI 0,aI 0,aI 0,aI 0,aI 0,aL [],aL [],aL [],aI 0,aI 0,aI 0,aI 0]] [] (aB f) []
abbrev jX (S:Bool)(a:AV->Prop)(w:Int):=
 Ae (Bool.not S) (a (.n (.bool false))) (∃P:Bool,QZ P/\Ae (Bool.not P) (a (.n (.bool false))) (∃(k e:LD)(f q g i j p:Int)(t s r:LD)(b l m d h:Int),Runs AT 14 [aI (Cs false (Cs true w 20) 80)] [] (Dd k e f q g i j p t s r b l m d h) []/\∃(u A:LD)(c:Int),Runs AT 15 [aI (Cs false (Cs true w 20) 80)] [] (Hu u A c) []/\Ae (c != 0) (Ae (h==c) (∃v:Bool,SX k e f q g i j p t s r b l m d v/\a (.n (.bool v))) (a (.n (.bool false)))) (∃(B G:LD)(M Q J z O H:Int)(E x K:LD)(L y I N C:Int),Runs AT 8 [.agg [aL u,.o (D.sl 2 A),aI (-1)]] [] (Dd B G M Q J z O H E x K L y I N C) []/\Ae (h==C) (∃F:Bool,Runs AT 13 [Bz k e f q g i j p t s r b l m d,Bz B G M Q J z O H E x K L y I N] [] (aB F) []/\a (.n (.bool F))) (a (.n (.bool false))))))
set_option maxRecDepth 8000 in
def V3 (b c:LD)(x z:Int)(R:AV->Prop):Prop:=
 Ae (decide ((b.length:Int) > 200)) (OR R) (Ae (decide ((c.length:Int) > 200)) (OR R) (∃(m s:LD)(p w e u q k:Int)(h l i:LD)(t f r g y:Int),Runs AT 8 [By b c x] [] (Dd m s p w e u q k h l i t f r g y) []/\∃(Q S L K N:Int)(J P I:LD)(M O:Int)(d:LD)(b5:Int),Runs AT 9 [ER b c] [] (.tup [B8 Q S L K N J P I M O d,aI b5]) []/\∃(A:Int->Int->HT->Prop)(H:Int->Int->HT->Nat),(rh [hB 300000 [aL b,.o (D.sl 2 c),aI x],hB 300305 [aL m,.o (D.sl 2 s),aI p,aI w,aI e,aI u,aI q,aI k,aL h,aL l,aL i,aI t,aI f,aI r,aI g],hB 300406 (FY Q S L K N J P I M O d)]/\A b5 0 (Q,S,L,K,N,J,P,I,M,O,d,()))/\∀(j v:Int)(a:HT),A j v a->∀b8:Nat->AV,Ae (Bw v d) (rn 1/\(0:Int)<=v/\∃W:D,AX d v W/\∃b1:bA,B7 W b1/\∃(a3:LD)(X:Int),Runs AT 10 [aS b1] [] (.tup [.o (D.sl 3 a3),aI X]) []/\∃(B F E:LD)(C G Z:Int),Runs AT 11 [.agg [aL a.2.2.2.2.2.1,aL a.2.2.2.2.2.2.1,aL a.2.2.2.2.2.2.2.1,aI a.2.2.2.2.2.2.2.2.1,aI a.2.2.2.2.2.2.2.2.2.1],.o (D.sl 3 a3)] [] (.tup [Bt B F E C G,aI Z]) []/\Ae (j==0) (Ae (X != 0) (lH z y d b c x m s p w e u q k h l i t f r g a B F E C G A v H j) (Ae (Z != 0) (lH z y d b c x m s p w e u q k h l i t f r g a B F E C G A v H j) (lM z y d b c x m s p w e u q k h l i t f r g a B F E C G A j v H))) (lM z y d b c x m s p w e u q k h l i t f r g a B F E C G A j v H)) (Ae (j==0) (∃(U Y:LD)(b2 a8 b3 T V b7:Int)(a5 a6 b6:LD)(b0 a9 a4 a0 a2:Int),Runs AT 12 (aM b c x a) [] (Dd U Y b2 a8 b3 T V b7 a5 a6 b6 b0 a9 a4 a0 a2) []/\Ae (y != a2) (R (.n (.bool false))) (∃b4:Bool,Runs AT 13 [Bz m s p w e u q k h l i t f r g,Bz U Y b2 a8 b3 T V b7 a5 a6 b6 b0 a9 a4 a0] [] (aB b4) []/\jX b4 R z)) (Ae (y != j) (R (.n (.bool false))) (∃a7:Bool,SX m s p w e u q k h l i t f r g a7/\jX a7 R z)))))
set_option maxRecDepth 8000 in
def V3e:=λa b c d e=>PLift.up (by delta V3 Hu FA BI B8 aM lM Bw E5 Bz AX SX QZ B7 lH jX FY Dd OR HT By ER Bt;exact rfl:V3 a b c d e=_)
set_option maxRecDepth 8000 in
theorem vc3 a d b c R:Vc AT c3.body (Af c3 [(.agg [aL a,(.o (.sl 2 d)),aI b]),aI c]) [] (Aq c3 R)=V3 a d b c R:=by kernel_rfl
abbrev bI (e h:LD)(k n g d b:Int)(i l c:LD)(a m f j:Int):List AV:=
 [.agg [aL e,.o (D.sl 2 h),aI (-1),aI k,aI n,aI g,aI d,aI b,aL i,aL l,aL c,aI a,aI m,aI f,aI j]]
abbrev cU (e h j:LD)(m g:Int)(d b:Nat)(i:Int)(k:Bool)(c:Nat)(a:LD)(l:Nat)(f:LD):=
 Runs AT 22 [Bt e h j m g] [] (.ptr 2200101 0) [PX d b i k,hR 2290001 c 129 2 a,hR 2290002 l 3 1 f]
abbrev aR (i k m:Int)(q j h f:Nat)(l p g e:LD)(a:AV->Prop):=
 ∃b:Bool,QZ b/\Ae b (Ae (i==0) (Ae (k==0) (Ae (m==0) (q=j/\h=f/\∃d:Bool,Runs AT 25 [.o (D.sl 2 l),.o (D.sl 2 p)] [] (aB d) []/\Ae d (∃c:Bool,Runs AT 26 [ER g e] [] (aB c) []/\a (.n (.bool c))) (a (.n (.bool false)))) (a (.n (.bool false)))) (a (.n (.bool false)))) (a (.n (.bool false)))) (a (.n (.bool false)))
set_option maxRecDepth 8000 in
def V4 (v f:LD)(V k l r w t:Int)(d g e:LD)(c a p m:Int)(a1:LD)(R:AV->Prop):Prop:=
 ∃x0:Bool,Runs AT 16 [Bz v f V k l r w t d g e c a p m] [] (aB x0) []/\Ae (Bool.not x0) (OR R) (∃Z:Bool,Runs AT 17 [Bz v f V k l r w t d g e c a p m] [] (aB Z) []/\Ae (Bool.not Z) (OR R) (Ae (decide (a>=1099511627774)) (OR R) (∃(j b:LD)(P N L J M K:Int)(A x z:LD)(y E h i I:Int),Runs AT 18 (bI v f k l r w t d g e c a p m) [] (Dd j b P N L J M K A x z y E h i I) []/\Ae (I==2) (∃U:Bool,QZ U/\Ae U (R (.n (.bool (decide ((f.length:Int) > 100))))) (R (.n (.bool false)))) (Ae (I != 0) (R (.n (.bool false))) (∃Y:Bool,Kt j b P N L J M K A x z y E h i Y/\Ae (Bool.not Y) (R (.n (.bool false))) (∃(H O:LD)(Q:Int),Runs AT 20 [Bz j b P N L J M K A x z y E h i,aL a1] [] (Hu H O Q) []/\∃(c4 d3:LD)(d1 e6 d8 d6 c2 e2:Int)(S a7 T:LD)(a5 X b3 b9 a4:Int),Runs AT 8 [.agg [aL H,.o (D.sl 2 O),aI (-1)]] [] (Dd c4 d3 d1 e6 d8 d6 c2 e2 S a7 T a5 X b3 b9 a4) []/\∃(d4 c7:LD)(e1 b8 b0 b6 e3 d7:Int)(e4 a9 b1:LD)(e8 d0 d2 e7 C:Int),Runs AT 21 (bI v f k l r w t d g e c a p m) [] (Dd d4 c7 e1 b8 b0 b6 e3 d7 e4 a9 b1 e8 d0 d2 e7 C) []/\∃(f0:Unit)(u c1:Nat)(c3:Int)(e5:Bool)(s:Nat)(q:LD)(b4:Nat)(b5:LD),cU d g e c a u c1 c3 e5 s q b4 b5/\∃(e9:Unit)(B d9:Nat)(e0:Int)(c0:Bool)(G:Nat)(F:LD)(c5:Nat)(c6:LD),cU A x z y E B d9 e0 c0 G F c5 c6/\∃(f1:Unit)(a3 b2:Nat)(b7:Int)(c8:Bool)(a2:Nat)(a0:LD)(c9:Nat)(d5:LD),cU S a7 T a5 X a3 b2 b7 c8 a2 a0 c9 d5/\∃W:Bool,Runs AT 23 [ER H O] [] (aB W) []/\Ae W (∃a6:Bool,Runs AT 24 (bI v f k l r w t d g e c a p m) [] (aB a6) []/\Ae a6 (Ae (Q != 0) (R (.n (.bool false))) (Ae (a4 != 0) (R (.n (.bool false))) (s=u/\a2=a3/\∃a8:Bool,Runs AT 25 [.o (D.sl 2 q),.o (D.sl 2 a0)] [] (aB a8) []/\Ae (Bool.not a8) (R (.n (.bool false))) (aR C h i s u G B q F j b R)))) (aR C h i s u G B q F j b R)) (aR C h i s u G B q F j b R)))))))
set_option maxRecDepth 8000 in
def V4e:=λa b c d e f g h i j k l m n o p q=>PLift.up (by delta V4 bI Bz Hu FA Kt QZ cU Dd OR BI PX ER aR Bt;exact rfl:V4 a b c d e f g h i j k l m n o p q=_)
set_option maxRecDepth 8000 in
theorem vc4 a n g d k l q p h e j b c f i m R:Vc AT c4.body (Af c4 [(.agg [aL a,(.o (.sl 2 n)),aI g,aI d,aI k,aI l,aI q,aI p,aL h,aL e,aL j,aI b,aI c,aI f,aI i]),aL m]) [] (Aq c4 R)=V4 a n g d k l q p h e j b c f i m R:=by kernel_rfl
abbrev WX (a:LD):=
 Cs false (a.length:Int) 30
abbrev qL (X:Bool)(a:AV->Prop)(G p3:LD)(V U I C Q w:Int)(v W A:LD)(E O x S:Int)(m:LD)(M:Int)(L Y:LD)(B H J K P a0:Int)(T Z y:LD)(F a1 z N:Int):=
 Ae (Bool.not X) (a (.n (.bool false))) (∃(j k:LD)(d c s p b g:Int)(l e r:LD)(u t h q f:Int),Runs AT 31 [Bz G p3 V U I C Q w v W A E O x S,.o (D.sl 3 (List.drop 0 (List.take (Int.toNat (WX m)) m)))] [] (Dd j k d c s p b g l e r u t h q f) []/\Ae (M==f) (∃i:Bool,Runs AT 13 [Bz L Y B H J K P a0 T Z y F a1 z N,Bz j k d c s p b g l e r u t h q] [] (aB i) []/\a (.n (.bool i))) (a (.n (.bool false))))
set_option maxRecDepth 8000 in
def V5 (c d:LD)(a e f h m i:Int)(j p k:LD)(g l b q:Int)(r:LD)(R:AV->Prop):Prop:=
 ∃x0:Bool,Runs AT 16 [Bz c d a e f h m i j p k g l b q] [] (aB x0) []/\Ae (Bool.not x0) (OR R) (rn 3/\(0:Int)<=WX r/\((WX r):Int)<=(r.length:Int)/\∃(I M:LD)(J x5 u U K F:Int)(A H C:LD)(P w L y Y:Int),Runs AT 27 [Bz c d a e f h m i j p k g l b q,.o (D.sl 3 (List.drop 0 (List.take (Int.toNat (WX r)) r)))] [] (Dd I M J x5 u U K F A H C P w L y Y) []/\∃(V W:LD)(z x G v Q t:Int)(E O N:LD)(Z T S B X:Int),Runs AT 21 [Bz c d a e f h m i j p k g l b q] [] (Dd V W z x G v Q t E O N Z T S B X) []/\∃(a2 b7:LD)(a3 b5 a9 a4 a7 b3:Int)(b1 b0 b4:LD)(a6 a0 a5 b8 b2:Int),Runs AT 18 [Bz c d a e f h m i j p k g l b q] [] (Dd a2 b7 a3 b5 a9 a4 a7 b3 b1 b0 b4 a6 a0 a5 b8 b2) []/\∃g7:Bool,Kt c d a e f h m i j p k g l b q g7/\∃c0:Bool,Runs AT 17 [Bz c d a e f h m i j p k g l b q] [] (aB c0) []/\Ae (Bool.not (g7==c0)) (R (.n (.bool false))) (∃c1:Bool,QZ c1/\Ae (Bool.not c1) (R (.n (.bool false))) (∃h1:Bool,Runs AT 17 [Bz c d a e f h m i j p k g l b q] [] (aB h1) []/\Ae (Bool.not h1) (Ae (Y==1) (Ae (X==1) (Ae (b2==1) (∃e6:Bool,SX I M J x5 u U K F A H C P w L y e6/\Ae e6 (∃e7:Bool,SX V W z x G v Q t E O N Z T S B e7/\Ae e7 (∃h0:Bool,SX a2 b7 a3 b5 a9 a4 a7 b3 b1 b0 b4 a6 a0 a5 b8 h0/\R (.n (.bool h0))) (R (.n (.bool false)))) (R (.n (.bool false)))) (R (.n (.bool false)))) (R (.n (.bool false)))) (R (.n (.bool false)))) (∃(g0 f3 d9 d3 d4:Int)(g8 d8 d0:LD)(c5 c6:Int)(d2:LD),Runs AT 28 [Bz c d a e f h m i j p k g l b q] [] (B8 g0 f3 d9 d3 d4 g8 d8 d0 c5 c6 d2) []/\∃(f0 f4:LD)(f5 d1 g9 g5 d7 e1:Int)(f7 f6 c3:LD)(c8 e2 f1 e4 e3:Int),Runs AT 12 [By c d a,B8 g0 f3 d9 d3 d4 g8 d8 d0 c5 c6 d2] [] (Dd f0 f4 f5 d1 g9 g5 d7 e1 f7 f6 c3 c8 e2 f1 e4 e3) []/\Ae (b2 != e3) (R (.n (.bool false))) (∃f2:Bool,Runs AT 13 [Bz a2 b7 a3 b5 a9 a4 a7 b3 b1 b0 b4 a6 a0 a5 b8,Bz f0 f4 f5 d1 g9 g5 d7 e1 f7 f6 c3 c8 e2 f1 e4] [] (aB f2) []/\Ae (Bool.not f2) (R (.n (.bool false))) (∃(a8 b6:LD)(b9 s:Int),Runs AT 29 [By c d a] [] (.tup [By a8 b6 b9,aI s]) []/\∃(c7 g6:LD)(g2 f9 e8 g3 d6 c4:Int)(d5 g4 f8:LD)(g1 e9 c9 e5:Int),Runs AT 30 [By a8 b6 b9,aI s] [] (Bz c7 g6 g2 f9 e8 g3 d6 c4 d5 g4 f8 g1 e9 c9 e5) []/\Ae (s==0) (Ae (X != s) (R (.n (.bool false))) (∃c2:Bool,Runs AT 13 [Bz V W z x G v Q t E O N Z T S B,.agg [aL a8,.o (D.sl 2 b6),aI b9,aI e,aI f,aI h,aI m,aI i,aL j,aL p,aL k,aI g,aI l,aI b,aI b]] [] (aB c2) []/\qL c2 R c d a e f h m i j p k g l b q r Y I M J x5 u U K F A H C P w L y)) (Ae (X != s) (R (.n (.bool false))) (∃e0:Bool,Runs AT 13 [Bz V W z x G v Q t E O N Z T S B,Bz c7 g6 g2 f9 e8 g3 d6 c4 d5 g4 f8 g1 e9 c9 e5] [] (aB e0) []/\qL e0 R c d a e f h m i j p k g l b q r Y I M J x5 u U K F A H C P w L y))))))))
set_option maxRecDepth 8000 in
def V5e:=λa b c d e f g h i j k l m n o p q=>PLift.up (by delta V5 SX Kt FY qL WX QZ Dd OR By B8 Bz;exact rfl:V5 a b c d e f g h i j k l m n o p q=_)
set_option maxRecDepth 8000 in
theorem vc5 a n g d k l q p h e j b c f i m R:Vc AT c5.body (Af c5 [(.agg [aL a,(.o (.sl 2 n)),aI g,aI d,aI k,aI l,aI q,aI p,aL h,aL e,aL j,aI b,aI c,aI f,aI i]),(.o (.sl 3 m))]) [] (Aq c5 R)=V5 a n g d k l q p h e j b c f i m R:=by kernel_rfl
def Ko (s:St):Prop:=Fits s.pw.b s.pw.p/\WFits s.wd
theorem Fc:Fits pw0.b pw0.p:=⟨by decide,by decide,λs hs=>(by cases hs),λs hs=>(by cases hs)⟩
theorem TQ {p:Pw}(h:Fits p.b p.p):Ko (stP p):=⟨h,IG⟩
theorem CY:Ko st0:=TQ Fc
theorem JL {p:Pw}(h:Fits p.b p.p)(e:Int):Ko (Fp p e).1:=by
 unfold Fp;split;·exact TQ h
 ·exact CY
theorem Rd (p:Pw)(f:Fnd):Fits (CommitR p f).1.b (CommitR p f).1.p:=by
 unfold CommitR;split;·exact Fc
 rename_i h1;have h1:FitsP p.b p.p f:=by simpa using h1
 split;·exact Fc
 split;·exact Fc
 split;·exact Fc
 ·split;·exact Bn (DF _ h1.1)
  ·split;·exact Fc
   ·exact Bn (DF _ h1.1)
theorem EP {p:Pw}{f:Fnd}(hl:Br p.left):Ko (AA p f).1:=by
 by_cases h:(AA p f).2=0;·obtain⟨a,b,c,d⟩:=HP hl h;exact⟨a,c⟩
 ·by_cases h0:(CommitR p f).2.2=0;·rw[AA,if_neg (by simpa using h0)]at h;exact absurd rfl h
  ·rw[AA,if_pos h0];exact JL (Rd p f) _
theorem JB {p:Pw}(hl:Br p.left):Ko (Cp p).1:=by
 unfold Cp;split;·exact CY
 split;·exact CY
 ·exact EP hl
theorem ZR (n:Int):Ko (Fe n).1:=by
 unfold Fe;split;·exact JB (by show Br (-1);unfold Br;omega)
 ·exact CY
theorem T9 {s:Pw}(h:Rt s.b s.p=true):Fits (KP s).1.b (KP s).1.p:=by
 unfold KP;split;·exact Bn h
 ·exact Bn (Rk h _ _)
theorem Wb {s:St}(hw:WFits s.wd):Ko (Ga s).1:=by
 unfold Ga;split;·exact CY
 ·rename_i hr;have hr:AW s:=by simpa using hr
  split;·exact JL (T9 hr.1.1) _
  ·exact⟨T9 hr.1.1,hw⟩
theorem aN {s:St}(hl:Br s.pw.left):Ko (ZH s).1:=by
 unfold ZH;split;·exact CY
 ·exact EP hl
theorem bJ {s:Pw}{i:Int}{x:bA}(h:Fits s.b s.p)(hx:x.size<=494):Fits (Ki s i x).1.b (Ki s i x).1.p:=by
 unfold Ki;split;·exact h
 split;·exact h
 split;·exact h
 ·rename_i h3;refine⟨h.bl,?_,h.bs,λy hy=>?_⟩;·dsimp only;rw[List.length_append,List.length_singleton];omega
  ·rcases List.mem_append.1 hy with hy|hy;·exact h.ps y hy
   ·rw[List.mem_singleton.1 hy];show(TrimS x).size<=_;have:=Dw x;omega
theorem Rl {s:St}(hf:Fits s.pw.b s.pw.p)(l:List Chg)(bd:bA):Ko (MW s l bd).1:=by
 have k:=bJ (i:=2+s.seq) hf (Ej s.su.g s.seq bd);unfold MW;split;·exact CY
 split;·exact CY
 split;·exact CY
 split;·exact JL k _
 ·exact⟨k,DA _ _⟩
theorem eJ {s:St}(hf:Fits s.pw.b s.pw.p)(hl:Br s.pw.left)(l:List Chg):Ko (nC s l).1:=by
 unfold nC;split;·exact CY
 split
 ·split;·exact EP hl
  ·exact Rl (EP hl).1 _ _
 ·exact Rl hf _ _
theorem eV {s:St}(hf:Fits s.pw.b s.pw.p)(hl:Br s.pw.left)(l:List Chg):Ko (DoS s l).1:=by
 rw[Od];split;·exact CY
 ·exact eJ hf hl l
theorem Vv {x:St}(h:Ko x):Runs AT 13 [B9 x,B9 x] [] (aB true) []:=p13 x h.1 h.2
theorem XO (l:List Chg)(n:Nat):List.drop 0 (List.take n (NS l))=NS (l.take n):=by simp[NS,List.map_take]
set_option maxRecDepth 4000 in
theorem p5 (s:St)(hf:Fits s.pw.b s.pw.p)(hw:WFits s.wd)(hl:Br s.pw.left)(l:List Chg)(hll:Small l.length):Runs AT 5 [B9 s,.o (.sl 3 (NS l))] [] (aB true) []:=by
 obtain⟨v,g1,hv⟩:=p16 s;obtain⟨k,hk,hk2,hk3⟩:=oH l.length 30 (by omega);have tk:Small (l.take k).length:=by rw[List.length_take];omega
 have a1:=p27 s hf hw hl (l.take k) tk;have a2:=p21 s hf hw hl;have a3:=p18 s hf hw hl;have a4:=uG s hf hw;have a5:=p17 s hf hw;have a6:=p28 s;have a7:=p12 s.pw s.fd hf hw hl;have a8:=(p29 s.pw hf hl).up Jg;have a9:=p30 (KP s.pw).1 (KP s.pw).2;have d1:=Vv (eV hf hl (l.take k));have d2:=Vv (Wb hw);have d3:=Vv (aN (s:=s) hl);rw[B9]at g1 a4 a5 d1 d2 d3;rw[B9,Gr,B9]at a1 a2 a3;rw[B9,FB]at a6;rw[Cu,FB,Gr,B9]at a7;rw[SM,Cu,Cu]at a8;rw[Cu,B9]at a9;refine Ag (c:=c5) rfl rfl ?_;rw[B9,vc5,(V5e _ _ _ _ _ _ _ _ _ _ _ _ _ _ _ _ _).down,Ue,hk,Int.toNat_natCast,XO];refine⟨_,g1,?_⟩
 cases v with
 | false=>exact EW ⟨_,p7,rfl⟩
 | true=>
  refine EG ⟨rfl,by omega,by omega,_,_,_,_,_,_,_,_,_,_,_,_,_,_,_,_,a1,_,_,_,_,_,_,_,_,_,_,_,_,_,_,_,_,a2,_,_,_,_,_,_,_,_,_,_,_,_,_,_,_,_,a3,_,a4,_,a5,?_⟩;rw[beq_self_eq_true];refine EG ⟨_,p7,EG ⟨_,a5,?_⟩⟩;by_cases hr:AW s
  ·rw[decide_eq_true hr];have eC:ZH s=AA s.pw s.fd:=by rw[ZH,if_neg (by simpa using hr)]
   have eS:Ga s=if (KP s.pw).2≠0 then Fp (KP s.pw).1 (KP s.pw).2 else (⟨(KP s.pw).1,s.su,s.slot,s.wd,s.seq,s.seq⟩,0):=by rw[Ga,if_neg (by simpa using hr)]
   have eD:DoS s (l.take k)=nC s (l.take k):=by rw[Od,if_neg (by simpa using hr)]
   have a10:=p31 s hf hw hl (l.take k) tk hr;rw[B9,Gr,B9,<-eD]at a10;rw[<-eC]at a7;refine EG ⟨_,_,_,_,_,_,_,_,_,_,_,a6,_,_,_,_,_,_,_,_,_,_,_,_,_,_,_,_,a7,CW rfl ⟨_,d3,EG ⟨_,_,_,_,a8,_,_,_,_,_,_,_,_,_,_,_,_,_,_,_,a9,?_⟩⟩⟩;have fin:∃x105:LD,∃x106:LD,True:=⟨[],[],trivial⟩
   refine Cy (λh=>?_) (λh=>?_);·rw[if_neg (by simpa using h)]at eS;rw[eS]at d2 |-;exact CW h.symm ⟨_,d2,EG ⟨_,_,_,_,_,_,_,_,_,_,_,_,_,_,_,_,a10,BV rfl ⟨_,d1,rfl⟩⟩⟩
   ·rw[if_pos h]at eS;rw[eS]at d2 |-;exact CW (E9 h) ⟨_,d2,EG ⟨_,_,_,_,_,_,_,_,_,_,_,_,_,_,_,_,a10,BV rfl ⟨_,d1,rfl⟩⟩⟩
  ·rw[decide_eq_false hr];have eC:ZH s=(st0,1):=by rw[ZH,if_pos hr]
   have eS:Ga s=(st0,1):=by rw[Ga,if_pos hr]
   have eD:DoS s (l.take k)=(st0,1):=by rw[Od,if_pos hr]
   rw[eC]at d3 |-;rw[eS]at d2 |-;rw[eD]at d1 |-;exact EW (BV rfl (BV rfl (BV rfl ⟨_,d1,EW ⟨_,d2,EW ⟨_,d3,rfl⟩⟩⟩)))
theorem bM (n:Int):∃k:Nat,Cs false (Cs true n 20) 80=k/\20<=k/\k<=80:=by refine⟨(Cs false (Cs true n 20) 80).toNat,?_⟩;unfold Cs;simp only[if_true,Bool.false_eq_true,if_false];split<;>split<;>omega
theorem XX {p:Pw}{F:Fnd}{e:Int}{w:Wd}{g:Int}(hM:AF p.b p.p=(F,e))(h:GR (F.wd,e) F.ring=(w,g)):(g=0/\Cp p=AA p ⟨F.su,F.slot,w,F.ring⟩)\/(g≠0/\Cp p=(st0,g)):=by
 have eO:Cp p=if e≠0 then (st0,e) else if (DV F.wd F.ring).2≠0 then (st0,120) else AA p ⟨F.su,F.slot,(DV F.wd F.ring).1,F.ring⟩:=by rw[Cp,hM]
 by_cases he:e=0
 ·subst he;rw[if_neg (by simp)]at eO;obtain⟨h1,h2⟩:=QU (w:=F.wd) (r:=F.ring);rw[h]at h1 h2;by_cases hg:g=0;·have h3:(DV F.wd F.ring).2=0:=h1.symm.trans hg;rw[if_neg (by simpa using h3),<-h2 h3]at eO;exact .inl ⟨hg,eO⟩
  ·have h1:g=(DV F.wd F.ring).2:=h1;have h3:(DV F.wd F.ring).2≠0:=by rw[<-h1];exact hg
   rw[if_pos h3]at eO;rcases Ud (w:=F.wd) (r:=F.ring) with h4|h4;·exact absurd h4 h3
   ·exact .inr ⟨hg,by rw[eO,h1,h4]⟩
 ·rw[if_pos he]at eO;have h1:=Jv (r:=F.ring) (x:=(F.wd,e)) he;rw[h]at h1;have h1:g=e:=h1;exact .inr ⟨by rw[h1];exact he,by rw[eO,h1]⟩
set_option maxRecDepth 8000 in
theorem p3 (p:Pw)(hf:Fits p.b p.p)(hl:Br p.left)(n:Int):Runs AT 3 [Cu p,aI n] [] (aB true) []:=by
 have a1:=p8 p hf hl;have a2:=(p9 p.b p.p hf).up Jg;obtain⟨hw,hr8,hrs⟩:=LI p.b p.p;obtain⟨F,e,hM⟩:∃F e,AF p.b p.p=(F,e):=⟨_,_,rfl⟩
 have d1:=Vv (JB (p:=p) hl);have d0:=Vv CY;obtain⟨k,hk,k20,k80⟩:=bM n;have a3:=p14 k;have a4:=(p15 k).up Jg;have d2:=Vv (ZR k);rw[hM]at a2 hw hr8 hrs;dsimp only at hw hr8 hrs;rw[Cu,Gr,B9]at a1;rw[CK,fdo,FB]at a2;rw[B9]at d0 d1 d2;rw[Gr,B9]at a3;refine Ag (c:=c3) rfl rfl ?_;rw[Cu,vc3,(V3e _ _ _ _ _).down,hk];refine Ab (λh=>⟨_,p7,rfl⟩) (λ_=>Ab (λh=>⟨_,p7,rfl⟩) (λ_=>?_));refine⟨_,_,_,_,_,_,_,_,_,_,_,_,_,_,_,_,a1,_,_,_,_,_,_,_,_,_,_,_,_,a2,?_⟩;refine⟨λg i z=>∃w:Wd,z=fdC ⟨F.su,F.slot,w,F.ring⟩/\WFits w/\0<=i/\i<=F.ring.length/\GR (F.wd,e) F.ring=GR (w,g) (F.ring.drop i.toNat),λ_ i _=>(F.ring.length-i).toNat,⟨rfl,F.wd,rfl,hw,by omega,by omega,by simp⟩,?_⟩;rintro g i _ ⟨w,rfl,hwf,i0,i1,hr⟩ _;have hsl:=Al F.ring;dsimp only[fdC];refine Ab (λhlt=>?_) (λhge=>?_)
 ·have hi:i.toNat<F.ring.length:=by omega
  rw[List.drop_eq_getElem_cons hi,GR]at hr;dsimp only at hr;have hs:=hrs _ (List.getElem_mem hi);have g1:=zT F.ring[i.toNat] (by omega);have hU:=QG F.ring[i.toNat];have g2:=VN w hwf (E2 F.ring[i.toNat]).1 (by omega);have hwf2:=DA w (E2 F.ring[i.toNat]).1;rw[Dp,W5,Dp]at g2;have e1:(i+1).toNat=i.toNat+1:=by omega
  have w1:wI (i+1)=i+1:=Ac _ (by omega);refine⟨rfl,i0,_,A0 hi,_,rfl,_,_,g1,_,_,_,_,_,_,g2,?_⟩;refine Cy (λh0=>A1 (λhb=>?_) (λhb=>A1 (λhc=>?_) (λhc=>?_))) (λh0=>?_)
  ·rw[if_pos ⟨h0,.inl hb⟩]at hr;repeat (refine And.intro rfl ?_)
   rw[w1];exact⟨⟨_,rfl,hwf2,by omega,by omega,by rw[e1];exact hr⟩,by first|omega|(dsimp only;omega)⟩
  ·rw[if_pos ⟨h0,.inr hc⟩]at hr;repeat (refine And.intro rfl ?_)
   rw[w1];exact⟨⟨_,rfl,hwf2,by omega,by omega,by rw[e1];exact hr⟩,by first|omega|(dsimp only;omega)⟩
  ·rw[if_neg (by rintro⟨_,h|h⟩<;>contradiction)]at hr;repeat (refine And.intro rfl ?_)
   rw[w1];exact⟨⟨_,rfl,hwf2,by omega,by omega,by rw[e1];exact hr⟩,by first|omega|(dsimp only;omega)⟩
  ·rw[if_neg (λhc=>h0 hc.1)]at hr;repeat (refine And.intro rfl ?_)
   rw[w1];exact⟨⟨_,rfl,hwf2,by omega,by omega,by rw[e1];exact hr⟩,by first|omega|(dsimp only;omega)⟩
 ·rw[List.drop_eq_nil_of_le (by omega),GR]at hr;rcases XX hM hr with⟨rfl,hO⟩|⟨hg,hO⟩
  ·have a5:=p12 p ⟨F.su,F.slot,w,F.ring⟩ hf hwf hl;rw[<-hO,Cu,FB,Gr,B9]at a5;refine BV rfl ⟨_,_,_,_,_,_,_,_,_,_,_,_,_,_,_,_,a5,CW rfl ⟨_,d1,EG ⟨_,p7,EG ⟨_,_,_,_,_,_,_,_,_,_,_,_,_,_,_,_,a3,?_⟩⟩⟩⟩;by_cases h24:24<=k
   ·rw[if_pos ⟨by omega,by omega⟩,CK]at a4;have eN:Fe k=Cp ⟨BS k,[],-1⟩:=by rw[Fe,if_pos ⟨by omega,by omega⟩,Int.toNat_natCast]
    have a6:=p8 ⟨BS k,[],-1⟩ (Bn (SR h24 (by omega))) (by show Br (-1);unfold Br;omega);rw[<-eN,Cu,Gr,B9]at a6;exact⟨_,_,_,a4,CW rfl ⟨_,_,_,_,_,_,_,_,_,_,_,_,_,_,_,_,a6,BV rfl ⟨_,d2,rfl⟩⟩⟩
   ·rw[if_neg (λh=>by omega),CK]at a4;have eN:Fe k=(st0,1):=by rw[Fe,if_neg (λh=>by omega)]
    rw[eN]at d2 |-;exact⟨_,_,_,a4,OF (by decide) (BV rfl ⟨_,d2,rfl⟩)⟩
  ·rw[hO]at d1 |-;refine SD hg (CW rfl ⟨_,d1,EG ⟨_,p7,EG ⟨_,_,_,_,_,_,_,_,_,_,_,_,_,_,_,_,a3,?_⟩⟩⟩);by_cases h24:24<=k
   ·rw[if_pos ⟨by omega,by omega⟩,CK]at a4;have eN:Fe k=Cp ⟨BS k,[],-1⟩:=by rw[Fe,if_pos ⟨by omega,by omega⟩,Int.toNat_natCast]
    have a6:=p8 ⟨BS k,[],-1⟩ (Bn (SR h24 (by omega))) (by show Br (-1);unfold Br;omega);rw[<-eN,Cu,Gr,B9]at a6;exact⟨_,_,_,a4,CW rfl ⟨_,_,_,_,_,_,_,_,_,_,_,_,_,_,_,_,a6,BV rfl ⟨_,d2,rfl⟩⟩⟩
   ·rw[if_neg (λh=>by omega),CK]at a4;have eN:Fe k=(st0,1):=by rw[Fe,if_neg (λh=>by omega)]
    rw[eN]at d2 |-;exact⟨_,_,_,a4,OF (by decide) (BV rfl ⟨_,d2,rfl⟩)⟩
theorem t22 {w:Wd}(hf:WFits w)(hn:w.now.length<=2048):∃va vb,Runs AT 22 [Dp w] [] (.ptr 2200101 0) (hT (AZ w) va vb):=by obtain⟨va,vb,g⟩:=tq w hf hn;exact⟨va,vb,g.up Jg⟩
theorem AAG {w:Wd}{h:Nat}{P:List Pr}{B:List Int}(hr:WRight w)(ht:IsTree w h P B):∃va vb,Runs AT 22 [Dp w] [] (.ptr 2200101 0) (hT ⟨P,B,h,false⟩ va vb):=by obtain⟨va,vb,g⟩:=t22 (D8 hr) hr.1.2.2.1;rw[Ef ht]at g;exact⟨va,vb,g⟩
theorem t25 {w:Wd}{h:Nat}{P:List Pr}{B:List Int}(hr:WRight w)(ht:IsTree w h P B):Runs AT 25 [.o (.sl 2 (Jn P)),.o (.sl 2 (Jn P))] [] (aB true) []:=
 (AEX P P rfl (by have:=(Qh hr ht).1;unfold Small;omega)).up Jg
theorem VQ {p:Pw}(hl:Br p.left):(Cp p).1.wd.now.length<=2048:=by
 have z:st0.wd.now.length<=2048:=by decide
 unfold Cp;split;·exact z
 split;·exact z
 ·generalize (⟨(AF p.b p.p).1.su,(AF p.b p.p).1.slot,(DV (AF p.b p.p).1.wd (AF p.b p.p).1.ring).1,(AF p.b p.p).1.ring⟩:Fnd)=f;by_cases h0:(CommitR p f).2.2=0;·rw[AA,if_neg (by simpa using h0)];exact(Le hl h0).2.2.1.2.2.1
  ·rw[AA,if_pos h0,Fp];split;·show wd0.now.length<=2048;decide
   ·exact z
theorem p20 (s:St)(ms:List Int)(hf:Fits s.pw.b s.pw.p):Runs AT 20 [B9 s,aL (ml ms)] [] (GU s.pw.b s.pw.p ms) []:=by
 have g:=((((p62 s.pw.b s.pw.p ms hf).up Ea).up C5).up Gu).up Jg;obtain⟨x,y,e,hC⟩:∃x y e,GU s.pw.b s.pw.p ms = .tup [.agg [.o (.sl 1 x),.o (.sl 2 y)],.n (.int .i64 e)]:=by unfold GU;split<;>exact⟨_,_,_,rfl⟩
 rw[hC,CK]at g;refine Ag (c:=c20) rfl rfl ?_;rw[B9,AFm,(AFP _ _ _ _ _ _ _ _ _ _ _ _ _ _ _ _ _).down,hC];exact⟨_,_,_,g,rfl⟩
def Te (s:St):Prop:=∃F,AF s.pw.b []=(F,0)/\s.pw.p=[]/\F.su=s.su/\F.slot=s.slot/\EH s.wd.gen 0 ((s.pw.b.take 10).drop 2)=[]
theorem tP (b:List bA):List.drop (Int.toNat 2) (List.take (Int.toNat 10) (bk b))=AK ((b.take 10).drop 2):=by show List.drop 2 (List.take 10 (b.map D.str))=_;rw[<-List.map_take,<-List.map_drop];rfl
theorem p24 (s:St)(hf:Fits s.pw.b s.pw.p):∃v:Bool,Runs AT 24 [B9 s] [] (aB v) []/\(v=true->Te s):=by
 have hf0:Fits s.pw.b []:=⟨hf.bl,by decide,hf.bs,λx hx=>by cases hx⟩
 have g1:=(p9 s.pw.b [] hf0).up Jg;obtain⟨F,e,hM⟩:∃F e,AF s.pw.b []=(F,e):=⟨_,_,rfl⟩
 rw[hM,CK,fdo,FB]at g1;have key:∃r,Runs AT 24 [B9 s] [] r []/\∃v:Bool,r = .n (.bool v)/\(v=true->Te s):=by
  refine DG (R:=λr=>∃v:Bool,r = .n (.bool v)/\(v=true->Te s)) (c:=c24) rfl rfl ?_;have no:∃v:Bool,AV.n (.bool false) = .n (.bool v)/\(v=true->Te s):=⟨false,rfl,λh=>by cases h⟩
  rw[B9,AJu,(AIB _ _ _ _ _ _ _ _ _ _ _ _ _ _ _ _).down,Dq,Cg];refine⟨_,_,_,_,_,_,_,_,_,_,_,_,g1,Cy (λhe=>?_) (λ_=>no)⟩;refine Cy (λhp=>?_) (λ_=>no);refine Aa (λhs=>?_) (λ_=>no);refine Cy (λhsl=>?_) (λ_=>no);have he:e=0:=he;subst he;have n24:24<=s.pw.b.length:=by
   have h:=hM;unfold AF at h;split at h;·cases h
   split at h;·cases h
   ·omega
  have fits:XS ((s.pw.b.take 10).drop 2):=⟨by rw[List.length_drop,List.length_take];omega,λx hx=>by have:=hf.bs x (List.mem_of_mem_take (List.mem_of_mem_drop hx));omega⟩
  have g2:=((((p38 s.wd.gen ((s.pw.b.take 10).drop 2) fits).up Ea).up C5).up Gu).up Jg;refine⟨rfl,by omega,by omega,by omega,by decide,_,by rw[tP];exact g2,_,rfl,λhv=>⟨F,hM,?_,?_,hsl,?_⟩⟩;·exact List.length_eq_zero_iff.1 (by omega)
  ·have hs:((F.su.g==s.su.g)&&((F.su.r==s.su.r)&&((F.su.m==s.su.m)&&((F.su.z==s.su.z)&&true))))=true:=hs;simp only[Bool.and_eq_true,beq_iff_eq,and_true]at hs;obtain⟨h1,h2,h3,h4⟩:=hs;cases hx:F.su;cases hy:s.su;rw[hx,hy]at h1 h2 h3 h4;dsimp only at h1 h2 h3 h4;rw[h1,h2,h3,h4]
  ·have hv:=of_decide_eq_true hv;rw[Al]at hv;exact List.length_eq_zero_iff.1 (by omega)
 obtain⟨r,hr,v,rfl,hv⟩:=key;exact⟨v,hr,hv⟩
set_option maxRecDepth 8000 in
theorem p4 (s:St)(hf:Fits s.pw.b s.pw.p)(hw:WFits s.wd)(ms:List Int):Runs AT 4 [B9 s,aL (ml ms)] [] (aB true) []:=by
 obtain⟨v,g1,hv⟩:=p16 s
 have g2:=p17 s hf hw
 rw[B9]at g1 g2
 refine Ag (c:=c4) rfl rfl ?_
 rw[B9,vc4,(V4e _ _ _ _ _ _ _ _ _ _ _ _ _ _ _ _ _).down]
 refine⟨_,g1,?_⟩
 cases v with
 | false=>exact EW ⟨_,p7,rfl⟩
 | true=>
   obtain⟨sm1,sm2,sm3,sm4⟩:=hv rfl
   refine EG ⟨_,g2,?_⟩
   by_cases hr:AW s
   · rw[decide_eq_true hr]
     refine EG (Ab (λh=>⟨_,p7,rfl⟩) (λhgen=>?_))
     obtain⟨r1,r2,r3,r4,r5,r6,r7⟩:=id hr
     have i1:Br (-1):=by unfold Br;omega
     -- the store with power for ever
     obtain⟨s1,hs1⟩:∃s1:St,s1=⟨⟨s.pw.b,s.pw.p,-1⟩,s.su,s.slot,s.wd,s.seq,s.syn⟩:=⟨_,rfl⟩
     have hr1:AW s1:=by rw[hs1];exact hr
     have a1:=p18 s1 (by rw[hs1];exact hf) (by rw[hs1];exact hw) (by rw[hs1];exact i1)
     have a2:=p21 s1 (by rw[hs1];exact hf) (by rw[hs1];exact hw) (by rw[hs1];exact i1)
     obtain⟨u,a3,hu⟩:=p24 s1 (by rw[hs1];exact hf)
     obtain⟨block,k,P,B,c⟩:=Y6 r1 r7 (by show s.wd.gen+1<_;omega) r6 (by omega)
     have eC:ZH s1=(⟨⟨b2Of s.pw.b s.pw.p s.fd block,[],-1⟩,nwSu s.fd block,1-s.slot,(nwFd s.fd block).wd,0,0⟩,0):=by
       rw[ZH,if_neg (by simpa using hr1),hs1]
       show AA ⟨s.pw.b,s.pw.p,-1⟩ s.fd=_
       rw[AA,c.eq,if_neg (by simp)];rfl
     have cr:AW ⟨⟨b2Of s.pw.b s.pw.p s.fd block,[],-1⟩,nwSu s.fd block,1-s.slot,(nwFd s.fd block).wd,0,0⟩:=c.right r1 (by show s.wd.gen+1<_;omega)
     have eS:(Ga s1).2=0:=by
       have e:KP s1.pw=(⟨Il (λ_=>255) s.pw.b s.pw.p s.pw.p.length,[],dn (-1)⟩,0):=by
        rw[hs1,KP]
        dsimp only
        rw[if_neg (by decide),if_pos r1.1]
       rw[Ga,if_neg (by simpa using hr1),e,if_neg (by simp)]
     have rt2:Rt (b2Of s.pw.b s.pw.p s.fd block) []=true:=cr.1.1
     rw[eC]at a1
     have a4:=uG ⟨⟨b2Of s.pw.b s.pw.p s.fd block,[],-1⟩,nwSu s.fd block,1-s.slot,(nwFd s.fd block).wd,0,0⟩ (Bn rt2) (D8 c.wr)
     rw[decide_eq_true cr]at a4
     have a5:=p20 ⟨⟨b2Of s.pw.b s.pw.p s.fd block,[],-1⟩,nwSu s.fd block,1-s.slot,(nwFd s.fd block).wd,0,0⟩ ms (Bn rt2)
     have eK:GU (b2Of s.pw.b s.pw.p s.fd block) [] ms = .tup [CK (b2Of s.pw.b s.pw.p s.fd block) [],.n (.int .i64 0)]:=by
       rw[GU,if_pos rt2];rfl
     dsimp only at a5
     rw[eK]at a5
     have a6:=p8 ⟨b2Of s.pw.b s.pw.p s.fd block,[],-1⟩ (Bn rt2) i1
     have yf:=JB (p:=⟨b2Of s.pw.b s.pw.p s.fd block,[],-1⟩) i1
     obtain⟨va,vb,t1⟩:=AAG r1.2.2.1 c.tree
     obtain⟨wa,wb,t2⟩:=AAG c.wr c.tree'
     obtain⟨xa,xb,t3⟩:=t22 yf.2 (VQ (p:=⟨b2Of s.pw.b s.pw.p s.fd block,[],-1⟩) i1)
     have q1:=t25 r1.2.2.1 c.tree
     have a7:=((((uQ (b2Of s.pw.b s.pw.p s.fd block) [] (Bn rt2)).up Ea).up C5).up Gu).up Jg
     have a8:=((((p26 (b2Of s.pw.b s.pw.p s.fd block) [] (Bn rt2)).up Ea).up C5).up Gu).up Jg
     rw[rt2,CK]at a7 a8
     -- safe: what is opened has the same pairs
     have hopen:u=true->(Cp ⟨b2Of s.pw.b s.pw.p s.fd block,[],-1⟩).2=0/\AZ (Cp ⟨b2Of s.pw.b s.pw.p s.fd block,[],-1⟩).1.wd=AZ (Cp ⟨b2Of s.pw.b s.pw.p s.fd block,[],-1⟩).1.wd/\(AZ (Cp ⟨b2Of s.pw.b s.pw.p s.fd block,[],-1⟩).1.wd).ps=P:=λhu1=>by
       obtain⟨F,m1,m2,m3,m4,m5⟩:=hu hu1
       rw[hs1]at m1 m2 m3 m4 m5
       dsimp only at m1 m2 m3 m4 m5
       have f1:=r1
       have c1:=c
       rw[m2]at f1 c1 |-
       obtain⟨o1,o2,h',B',o3⟩:=c1.opens f1 m1 m3 m4 m5 (by show s.wd.gen+1+1<_;omega) (by omega)
       exact⟨o1,rfl,by rw[Ef o3]⟩
     generalize Cp ⟨b2Of s.pw.b s.pw.p s.fd block,[],-1⟩=Y at *
     rw[hs1]at a1 a2 a3
     rw[hs1]at eS
     generalize Ga ⟨⟨s.pw.b,s.pw.p,-1⟩,s.su,s.slot,s.wd,s.seq,s.syn⟩=Z at *
     rw[B9,Gr,B9]at a1 a2
     rw[B9]at a3 a4
     rw[B9,CK]at a5
     rw[Cu,Gr,B9]at a6
     rw[Dp,hT]at t1 t2 t3
     refine⟨_,_,_,_,_,_,_,_,_,_,_,_,_,_,_,_,a1,SD (by show(0:Int)≠2;decide) (CW rfl ⟨_,a4,EG ⟨_,_,_,a5,_,_,_,_,_,_,_,_,_,_,_,_,_,_,_,_,a6,_,_,_,_,_,_,_,_,_,_,_,_,_,_,_,_,a2,(),_,_,_,_,_,_,_,_,t1,(),_,_,_,_,_,_,_,_,t2,(),_,_,_,_,_,_,_,_,t3,_,a7,EW ⟨_,a3,?_⟩⟩⟩)⟩
     cases u with
     | true=>
       obtain⟨o1,_,o3⟩:=hopen rfl
       rw[o3]
       exact EW (CW rfl (CW o1 ⟨rfl,rfl,_,q1,EG ⟨_,p7,EW (BV eS (BV rfl (BV rfl ⟨rfl,rfl,_,q1,EW ⟨_,a8,rfl⟩⟩)))⟩⟩))
     | false=>
       exact EG ⟨_,p7,EW (BV eS (BV rfl (BV rfl ⟨rfl,rfl,_,q1,EW ⟨_,a8,rfl⟩⟩)))⟩
   · rw[decide_eq_false hr]
     exact EW ⟨_,p7,rfl⟩
theorem AEW {n:Int}(h:(Lit.int .i64 n).wf=true):Br n:=by
 simp only[Lit.wf,Bool.and_eq_true,decide_eq_true_eq]at h;have e1:IntKind.min .i64 = -9223372036854775808:=by decide
 have e2:IntKind.max .i64=9223372036854775807:=by decide
 unfold Br;omega
abbrev pwT:Mir.Ty := .st [.st [.sl .str,.sl (.st [.int .i64,.str])],.int .i64]
def XB (x:pwT.T):Pw:=match x with
 | ((b,p,_),l,_)=>⟨b,p,l⟩
theorem yU (x:pwT.T):pwT.av x=Cu (XB x):=by obtain⟨⟨b,p,_⟩,l,_⟩:=x;rfl
theorem Pd (x:pwT.T)(h:pwT.fit x):Fits (XB x).b (XB x).p/\Br (XB x).left:=by obtain⟨⟨b,p,u⟩,l,_⟩:=x;obtain⟨h1,h2,_⟩:=h;exact⟨gP (b,p,u) h1,AEW h2⟩
abbrev cgT:Mir.Ty := .sl (.st [.str,.str,.bool])
def Tt (x:cgT.T):List Chg:=(show List (bA×bA×Bool×Unit) from x).map λp=>⟨p.2.2.1,p.1,p.2.1⟩
theorem kD (x:cgT.T):cgT.av x = .o (.sl 3 (NS (Tt x))):=by unfold Tt NS;rw[List.map_map];rfl
theorem gO (x:cgT.T)(h:cgT.fit x):Small (Tt x).length:=by have h1:List.length (show List (bA×bA×Bool×Unit) from x)<=maxLen:=h.1;have e:maxLen=9223372036854775807:=rfl;unfold Tt;rw[List.length_map];show((List.length (show List (bA×bA×Bool×Unit) from x):Nat):Int)<=_;omega
abbrev stT:Mir.Ty := .st [.st [.st [.sl .str,.sl (.st [.int .i64,.str])],.int .i64],.st [.int .i64,.int .i64,.int .i64,.int .i64],.int .i64,.st [.st [.sl .bool,.sl .bool],.sl .str,.int .i64,.int .i64],.int .i64,.int .i64]
def X8 (x:stT.T):St:=match x with
 | (p,(g,r,m,z,_),l,w,q,y,_)=>⟨XB p,⟨g,r,m,z⟩,l,ABo w,q,y⟩
theorem iZ (x:stT.T):stT.av x=B9 (X8 x):=by obtain⟨⟨⟨b,p,_⟩,l,_⟩,⟨g,r,m,z,_⟩,s,⟨⟨a,c,_⟩,pg,rt,ge,_⟩,q,y,_⟩:=x;rfl
theorem Mj (x:stT.T)(h:stT.fit x):Fits (X8 x).pw.b (X8 x).pw.p/\Br (X8 x).pw.left/\WFits (X8 x).wd:=by obtain⟨p,⟨g,r,m,z,_⟩,l,w,q,y,_⟩:=x;obtain⟨h1,_,_,h4,_⟩:=h;exact⟨(Pd p h1).1,(Pd p h1).2,qU w h4⟩
theorem cB (x:(Mir.Ty.sl (.int .i64)).T):(Mir.Ty.sl (.int .i64)).av x = aL (ml (show List Int from x)):=rfl
theorem p3x (x:pwT.T)(h:pwT.fit x)(n:Int):Runs AT 3 [pwT.av x,aI n] [] (aB true) []:=by rw[yU];exact p3 _ (Pd x h).1 (Pd x h).2 n
theorem p4x (x:stT.T)(h:stT.fit x)(ms:(Mir.Ty.sl (.int .i64)).T):Runs AT 4 [stT.av x,(Mir.Ty.sl (.int .i64)).av ms] [] (aB true) []:=by rw[iZ,cB];exact p4 _ (Mj x h).1 (Mj x h).2.2 _
theorem p5x (x:stT.T)(h:stT.fit x)(l:cgT.T)(hl:cgT.fit l):Runs AT 5 [stT.av x,cgT.av l] [] (aB true) []:=by rw[iZ,kD];exact p5 _ (Mj x h).1 (Mj x h).2.2 (Mj x h).2.1 _ (gO l hl)
end Go.Proofs.YtjmpnbbeplgchabGreatDoor.M
