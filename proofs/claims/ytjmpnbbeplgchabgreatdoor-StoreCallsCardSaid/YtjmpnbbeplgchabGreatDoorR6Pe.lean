import Derived.Test.YtjmpnbbeplgchabGreatDoorR6PW
import Derived.Test.YtjmpnbbeplgchabGreatDoorR6Pa
import Derived.Test.YtjmpnbbeplgchabGreatDoorR6Pm
namespace Go.Proofs.YtjmpnbbeplgchabGreatDoor.M
set_option linter.unusedVariables false
set_option linter.unusedSimpArgs false
open Go Go.Mir
abbrev Br (l:Int):Prop := -9223372036854775808<=l/\l<=9223372036854775807
def SM (x:Pw×Int):AV := .tup [Cu x.1,aI x.2]
def Ki (s:Pw)(i:Int)(x:bA):Pw×Int:=
 if s.left=0 then (s,140) else if A7 s.b s.p i≠0 then (s,A7 s.b s.p i) else if 4096<x.size\/2048<=s.p.length then (s,2) else (⟨s.b,s.p++[nwW i x],dn s.left⟩,0)
def KP (s:Pw):Pw×Int:=
 if s.left=0 then (s,140) else if Rt s.b s.p=true then (⟨Il (λ_=>255) s.b s.p s.p.length,[],dn s.left⟩,0) else (s,1)
def iB (i:Int)(s:bA):Heap:=[hB 7100001 [aI i],hB 7100002 [aS s]]
def FD (b:List bA)(p:List Wr)(i:Int)(s:bA):(List bA×List Wr)×Int:=
 if A7 b p i≠0 then (([],[]),A7 b p i) else if 4096<s.size\/2048<=p.length then (([],[]),2) else ((b,p++[nwW i s]),0)
theorem N6 (b:List bA)(p:List Wr)(i:Int)(s:bA):GO b p i s = .tup [.agg [aL (bk (FD b p i s).1.1),.o (.sl 2 (pk (FD b p i s).1.2))],aI (FD b p i s).2]:=by
 unfold GO FD CK;split;·rfl
 ·split<;>rfl
theorem AGK (b:List bA)(p:List Wr)(i:Int)(s:bA)(hf:Fits b p)(hs:(s.size:Int)<=9223372036854775807):Runs A8 116 [CK b p,.ptr 7100001 0,.ptr 7100002 0] (iB i s) (GO b p i s) (iB i s):=by have g:=(((AFV b p i s hf hs).up Ea).up C5).up Gu;rw[N6]at g |-;refine Ci (c:=c116) rfl rfl (by kernel_rfl) ?_;rw[CK,iB,tF,(tL _ _ _ _ _).down];exact⟨_,_,_,g,rfl,rfl⟩
theorem Uk {l:Int}(h:Br l)(h0:l > 0):wI (l-1)=dn l:=by rw[Ac _ (by unfold Br at h;omega),dn,if_pos h0]
theorem AEY (s:Pw)(i:Int)(x:bA)(hf:Fits s.b s.p)(hs:(x.size:Int)<=9223372036854775807)(hl:Br s.left):Runs A8 72 [Cu s,.fn 116 [.ptr 7100001 0,.ptr 7100002 0]] (iB i x) (SM (Ki s i x)) (iB i x):=by
 have g:=AGK s.b s.p i x hf hs;rw[N6,iB,CK]at g;refine Ci (c:=c72) rfl rfl (by kernel_rfl) ?_;rw[Cu,iB,ADa,(ADo _ _ _ _ _ _).down];refine Aa (λh=>?_) (λh=>?_)
 ·have h:s.left=0:=by simpa using h
  rw[Ki,if_pos h];exact⟨rfl,rfl⟩
 ·have h:¬s.left=0:=by simpa using h
  refine⟨_,_,_,g,Aa (λh2=>?_) (λh2=>?_)⟩
  ·have h2:(FD s.b s.p i x).2≠0:=by simpa using h2
   refine⟨?_,rfl⟩;unfold FD at h2 |-;rw[Ki,if_neg h];split;·rfl
   ·rename_i h3;rw[if_neg h3]at h2;split;·rfl
    ·rename_i h4;rw[if_neg h4]at h2;exact absurd rfl h2
  ·have h2:(FD s.b s.p i x).2=0:=by simpa using h2
   have e:FD s.b s.p i x=((s.b,s.p++[nwW i x]),0)/\Ki s i x=(⟨s.b,s.p++[nwW i x],dn s.left⟩,0):=by
    unfold FD at h2 |-;rw[Ki,if_neg h];split at h2;·rename_i h3;exact absurd h2 h3
    ·rename_i h3;split at h2;·cases h2
     ·rename_i h4;rw[if_neg h3,if_neg h4,if_neg h3,if_neg h4];exact⟨rfl,rfl⟩
   rw[e.1,e.2];refine Ab (λh3=>?_) (λh3=>?_);·rw[Uk hl h3];exact⟨rfl,rfl⟩
   ·rw[dn,if_neg h3];exact⟨rfl,rfl⟩
theorem p71 (s:Pw)(i:Int)(x:bA)(hf:Fits s.b s.p)(hs:(x.size:Int)<=9223372036854775807)(hl:Br s.left):Runs A8 71 [Cu s,aI i,aS x] [] (SM (Ki s i x)) []:=by have g:=AEY s i x hf hs hl;rw[Cu,iB,SM,Cu]at g;refine Ag (c:=c71) rfl rfl ?_;rw[Cu,AEx,(AHM _ _ _ _ _ _).down];exact⟨_,_,_,_,g,rfl⟩
theorem AFr (s:Pw)(hf:Fits s.b s.p)(hl:Br s.left):Runs A8 72 [Cu s,.fn 73 []] [] (SM (KP s)) []:=by
 have g:=(((p73 s.b s.p hf).up Ea).up C5).up Gu;rw[CK]at g;refine Ag (c:=c72) rfl rfl ?_;rw[Cu,AB4,(AB2 _ _ _ _).down];refine Aa (λh=>?_) (λh=>?_)
 ·have h:s.left=0:=by simpa using h
  rw[KP,if_pos h];rfl
 ·have h:¬s.left=0:=by simpa using h
  rw[KP,if_neg h];by_cases hr:Rt s.b s.p=true
  ·rw[LC,if_pos hr,CK]at g;rw[if_pos hr];refine⟨_,_,_,g,Aa (λh=>by simp at h) (λ_=>Ab (λh3=>?_) (λh3=>?_))⟩;·rw[Uk hl h3];rfl
   ·rw[dn,if_neg h3];rfl
  ·rw[LC,if_neg hr,CK]at g;rw[if_neg hr];exact⟨_,_,_,g,Aa (λ_=>rfl) (λh=>by simp at h)⟩
theorem p29 (s:Pw)(hf:Fits s.b s.p)(hl:Br s.left):Runs A8 29 [Cu s] [] (SM (KP s)) []:=by have g:=AFr s hf hl;rw[Cu,SM,Cu]at g;refine Ag (c:=c29) rfl rfl ?_;rw[Cu,AFk,(AIq _ _ _ _).down];exact⟨_,_,_,_,g,rfl⟩
theorem tM {s:Pw}{i:Int}{x:bA}(h:Rt s.b s.p=true)(h0:0<=i):Ki s i x=Ge s (i,x):=by
 rw[Ki,Ge];by_cases hl:s.left=0;·rw[if_pos hl,if_pos hl]
 ·rw[if_neg hl,if_neg hl,if_neg (show ¬((i,x):Int×bA).1<0 from λh=>absurd h (by show ¬i<0;omega))];by_cases hi:i>=s.b.length
  ·have e:A7 s.b s.p i=30:=by rw[A7,if_neg (by rw[h];simp),if_pos (.inr hi)]
   rw[e,if_pos (by simp),if_pos (show(i,x).1>=s.b.length from hi)]
  ·have e:A7 s.b s.p i=0:=by rw[A7,if_neg (by rw[h];simp),if_neg (by omega)]
   rw[e,if_neg (by simp),if_neg (show ¬(i,x).1>=s.b.length from hi)]
theorem sG {s:Pw}(h:Rt s.b s.p=true):KP s=Ge s (-1,Ar):=by rw[KP,Ge,if_pos h,if_pos (show((-1:Int),Ar).1<0 by decide)]
def ME (s:Pw)(e:Int):Heap:=[hB 5002302 [aL (bk s.b),.o (.sl 2 (pk s.p)),aI s.left,aI e]]
def Z5 (x:Pw×Int)(i:Int)(s:bA):Pw×Int:=if x.2=0 then Ki x.1 i s else x
def Z7 (x:Pw×Int):Pw×Int:=if x.2=0 then KP x.1 else x
theorem p94 (x:Pw×Int)(i:Int)(s:bA)(hf:Fits x.1.b x.1.p)(hs:(s.size:Int)<=9223372036854775807)(hl:Br x.1.left):Runs A8 94 [.ptr 5002302 0,aI i,aS s] (ME x.1 x.2) (.tup []) (ME (Z5 x i s).1 (Z5 x i s).2):=by
 have g:=p71 x.1 i s hf hs hl;rw[SM,Cu,Cu]at g;have key:∃r H',Runs A8 94 [.ptr 5002302 0,.n (.int .i64 i),.n (.str s)] (ME x.1 x.2) r H'/\(r = .tup []/\H'=ME (Z5 x i s).1 (Z5 x i s).2):=DI (R:=λr H'=>r = .tup []/\H'=ME (Z5 x i s).1 (Z5 x i s).2) AGc rfl (by kernel_rfl) (by
  rw[ME,xR,(yP _ _ _ _ _ _ _).down];refine Aa (λh=>?_) (λh=>?_)
  ·have h:x.2=0:=by simpa using h
   rw[Z5,if_pos h];exact⟨_,_,_,_,g,rfl,rfl⟩
  ·have h:¬x.2=0:=by simpa using h
   rw[Z5,if_neg h];exact⟨rfl,rfl⟩)
 obtain⟨r,H',hr,rfl,rfl⟩:=key;exact hr
theorem p95 (x:Pw×Int)(hf:Fits x.1.b x.1.p)(hl:Br x.1.left):Runs A8 95 [.ptr 5002302 0] (ME x.1 x.2) (.tup []) (ME (Z7 x).1 (Z7 x).2):=by
 have g:=p29 x.1 hf hl;rw[SM,Cu,Cu]at g;have key:∃r H',Runs A8 95 [.ptr 5002302 0] (ME x.1 x.2) r H'/\(r = .tup []/\H'=ME (Z7 x).1 (Z7 x).2):=DI (R:=λr H'=>r = .tup []/\H'=ME (Z7 x).1 (Z7 x).2) AE1 rfl (by kernel_rfl) (by
  rw[ME,ADc,(vI _ _ _ _ _).down];refine Aa (λh=>?_) (λh=>?_)
  ·have h:x.2=0:=by simpa using h
   rw[Z7,if_pos h];exact⟨_,_,_,_,g,rfl,rfl⟩
  ·have h:¬x.2=0:=by simpa using h
   rw[Z7,if_neg h];exact⟨rfl,rfl⟩)
 obtain⟨r,H',hr,rfl,rfl⟩:=key;exact hr
theorem p91 (e:Int):Runs A8 91 [aI e] [] (.tup [Cu pw0,FB fd0,aI e]) []:=by refine Ag (c:=c91) rfl rfl ?_;rw[AHU,(ADH _ _).down];rfl
theorem p59 (b:List bA)(p:List Wr)(f:Fnd)(hf:Fits b p)(hw:WFits f.wd):Runs A8 59 [CK b p,FB f] [] (.n (.bool (decide (FitsP b p f)))) []:=by
 have g1:=(((uQ b p hf).up Ea).up C5).up Gu;have g2:=(((pZ f.su).up Ea).up C5).up Gu;have g3:=((uN f.wd hw).up C5).up Gu;rw[CK]at g1;rw[UO]at g2;rw[Dp]at g3;have no:¬FitsP b p f->AV.n (D.bool false) = .n (.bool (decide (FitsP b p f))):=λh=>by rw[decide_eq_false h]
 refine Ag (c:=c59) rfl rfl ?_;rw[CK,FB,AHr,(AGL _ _ _ _ _ _ _ _ _ _ _ _ _ _).down,Cg,AI];refine⟨_,g1,Aa (λh=>no λhx=>by rw[hx.1]at h;cases h) (λh1=>⟨_,g2,Aa (λh=>no λhx=>by rw[decide_eq_true hx.2.1]at h;cases h) (λh2=>Aa (λh=>no λhx=>by have:=hx.2.2.2.1;simp[this]at h) (λh3=>?_))⟩)⟩;have h1:Rt b p=true:=by simpa using h1
 have h2:suOK f.su:=by simpa using h2
 have h3:f.su.z=b.length:=by simpa using h3
 have rest:(f.slot=0\/f.slot=1)->∃x5:Bool,Runs A8 46 [.agg [aL (Bk f.wd.base),aL (Bk f.wd.now),aL (AK f.wd.pages),aI f.wd.root,aI f.wd.gen]] [] (aB x5) []/\Ae x5 (Ae (((f.wd.now.length:Nat):Int)==f.su.z) (Ae (f.wd.gen==wI (f.su.g+1)) (rn 1/\(0:Int)<=f.su.m/\∃x6:Mir.D,(Bk f.wd.now)[Int.toNat f.su.m]?=some x6/\∃x7:Bool,(D.cells x6)[0]?=some (D.bool x7)/\Ae x7 (AV.n (D.bool (f.wd.root != f.su.m)) = .n (.bool (decide (FitsP b p f)))) (AV.n (D.bool false) = .n (.bool (decide (FitsP b p f))))) (AV.n (D.bool false) = .n (.bool (decide (FitsP b p f))))) (AV.n (D.bool false) = .n (.bool (decide (FitsP b p f))))) (AV.n (D.bool false) = .n (.bool (decide (FitsP b p f)))):=λhs=>by
  refine⟨_,g3,Aa (λh4=>Aa (λh5=>Aa (λh6=>?_) (λh=>no λhx=>?_)) (λh=>no λhx=>?_)) (λh=>no λhx=>?_)⟩
  ·have h4:WRight f.wd:=by simpa using h4
   have h5:(f.wd.now.length:Int)=f.su.z:=by simpa using h5
   have hg:=h2.2.1;have hm:=h2.2.2.2.2.2;rw[Ac _ (by have:=h2.1;omega)]at h6;have h6:f.wd.gen=f.su.g+1:=by simpa using h6
   have hi:f.su.m.toNat<f.wd.now.length:=by omega
   refine⟨rfl,by omega,_,BU hi,_,rfl,Aa (λh7=>?_) (λh7=>no λhx=>?_)⟩
   ·congr 2;by_cases hr:f.wd.root=f.su.m;·rw[decide_eq_false (λhx=>hx.2.2.2.2.2.2.2.2 hr)];simp[hr]
    ·rw[decide_eq_true ⟨h1,h2,h4,h3,by omega,hs,h6,by rw[Dl hi];exact h7,hr⟩];simpa using hr
   ·have:=hx.2.2.2.2.2.2.2.1;rw[Dl hi,h7]at this;cases this
  ·have:=hx.2.2.2.2.2.2.1;have hg:=h2.2.1;rw[Ac _ (by have:=h2.1;omega),this]at h;simp at h
  ·have:=hx.2.2.2.2.1;rw[this,h3]at h;simp at h
  ·have:=hx.2.2.1;rw[decide_eq_true this]at h;cases h
 refine Aa (λh4=>Aa (λh5=>no λhx=>?_) (λh5=>?_)) (λh4=>?_)
 ·have h4:f.slot≠0:=by simpa using h4
  have h5:f.slot≠1:=by simpa using h5
  exact hx.2.2.2.2.2.1.elim h4 h5
 ·exact rest (.inr (by simpa using h5))
 ·exact rest (.inl (by simpa using h4))
theorem KW {b:List bA}{i:Int}(h0:0<=i)(hi:i<b.length):(bk b)[i.toNat]?=some (.str (blk b i)):=by rw[bk,List.getElem?_map,XT h0 hi];rfl
def AFo (o:Option (List Bool)):AV := .tup [aL (Bk (o.getD [])),aB o.isSome]
theorem Na {s:bA}{g z e:Int}(he:e≠0)(h:GetPR s=Ey e):L6 s g z=none:=by rw[L6,h,Ey,pg];dsimp only;rw[if_neg (λh=>he h.1)]
theorem QP {s:bA}{g z k g':Int}{y:bA}(h:GetPR s = .tup [pg k g' y,aI 0]):L6 s g z=if k=3/\g'<=g/\(FC y z).2=0 then some (FC y z).1 else none:=by
 rw[L6,h,pg];dsimp only;by_cases h1:k=3/\g'<=g/\(FC y z).2=0;·rw[if_pos h1,if_pos ⟨rfl,h1⟩]
 ·rw[if_neg h1,if_neg (λh=>h1 h.2)]
theorem VE {s:bA}{g z:Int}{now:List Bool}(h:L6 s g z=some now):(now.length:Int)=z/\0<=z/\z<=2048:=by
 rcases A6 s with⟨e,he,h2⟩|⟨k,g',y,h2,_⟩
 ·rw[Na he h2]at h;cases h
 ·rw[QP h2]at h;split at h;·rename_i h1;obtain rfl:=Option.some.inj h;exact aX h1.2.2
  ·cases h
theorem cJ {s:bA}{n:Int}(h:(FC s n).2≠0):(FC s n).1=[]:=by
 unfold FC at h |-;split;·rfl
 ·rename_i h1;rw[if_neg h1]at h;split;·rfl
  ·rename_i h2;rw[if_neg h2]at h;split;·rfl
   ·rename_i h3;rw[if_neg h3]at h;exact absurd rfl h
theorem p36 (b:List bA)(p:List Wr)(s:Su)(hs:∀x∈b,(x.size:Int)<=9223372036854775807)(h0:0<=s.m)(hm:s.m<b.length):Runs A8 36 [CK b p,UO s] [] (AFo (SE b s)) []:=by
 have hsz:((blk b s.m).size:Int)<=9223372036854775807:=by have:=XT h0 hm;exact hs _ (List.mem_of_getElem? this)
 refine Ag (c:=c36) rfl rfl ?_;rw[CK,UO,AIJ,(AIp _ _ _ _ _ _ _).down];refine⟨rfl,h0,_,KW h0 hm,_,rfl,rfl,?_⟩;rcases A6 (blk b s.m) with⟨e,he,h2⟩|⟨k,g',y,h2,h3,_⟩
 ·have g:=(((KC (blk b s.m) hsz [3] e he h2).up Ea).up C5).up Gu;rw[SE,Na he h2];exact⟨_,_,_,_,g,Aa (λ_=>rfl) (λh=>absurd (by simpa using h) he)⟩
 ·have g:=(((O2 (blk b s.m) hsz [3] (by decide) k g' y h2).up Ea).up C5).up Gu;rw[SE,QP h2];by_cases hk:k=3
  ·subst hk;rw[if_pos (by simp)]at g;refine⟨_,_,_,_,g,Aa (λh=>by simp at h) (λ_=>Ab (λh=>?_) (λh=>?_))⟩;·rw[if_neg (λhx=>by omega)];rfl
   ·refine⟨_,_,p78 y (by have:=h3.2.2.2.2;omega) s.z,?_⟩;by_cases hu:(FC y s.z).2=0;·rw[if_pos ⟨rfl,by omega,hu⟩,hu];rfl
    ·rw[if_neg (λhx=>hu hx.2.2),cJ hu];show AV.tup [_,.n (.bool ((FC y s.z).2==0))] = .tup [_,.n (.bool false)];rw[beq_false_of_ne hu];rfl
  ·rw[if_neg (by simpa using hk)]at g;rw[if_neg (λhx=>hk hx.1)];exact⟨_,_,_,_,g,Aa (λ_=>rfl) (λh=>by simp at h)⟩
def F9 (b:List bA)(now:List Bool)(n:Nat):List bA:=(List.range n).map λi=>if tr now i then (b[i]?).getD Ar else Ar
theorem Jy (b:List bA)(now:List Bool)(n:Nat):(F9 b now n).length=n:=by simp[F9]
theorem LP (b:List bA)(now:List Bool)(n:Nat):F9 b now (n+1)=F9 b now n++[if tr now n then blk b n else Ar]:=by simp[F9,List.range_succ,blk]
theorem UI {b:List bA}{s:Su}{now:List Bool}(hb:∀s∈b,s.size<=4096)(hn:now.length<=2048):WFits (Ht b s now):=by
 refine⟨by show Small now.length;unfold Small;omega,by show Small now.length;unfold Small;omega,by show Small (IW b now).length;rw[Hk];unfold Small;omega,λx hx=>?_⟩;obtain⟨i,_,rfl⟩:=List.mem_map.1 hx;unfold Small;split
 ·cases hy:b[i]? with
  | none=>decide
  | some y=>have:=hb y (List.mem_of_getElem? hy);show(y.size:Int)<=_;omega
 ·decide
theorem sV {x y:bA}(h:¬(Gk x y).2<0):suOK (Gk x y).1/\((Gk x y).2=0\/(Gk x y).2=1):=by
 unfold Gk at h |-;split
 ·rename_i h1;refine⟨?_,.inl rfl⟩;rcases Ik x with h2|h2;·exact h2.2
  ·exact absurd h1.1 h2.1
 ·rename_i h1;rw[if_neg h1]at h;split
  ·rename_i h2;refine⟨?_,.inr rfl⟩;rcases Ik y with h3|h3;·exact h3.2
   ·exact absurd h2 h3.1
  ·rename_i h2;rw[if_neg h2]at h;exact absurd (by decide) h
theorem XD {x y:bA}(h:(Gk x y).2<0):(Gk x y).2 = -1/\(Gk x y).1=Kv:=by
 unfold Gk at h |-;split;·rename_i h1;rw[if_pos h1]at h;exact absurd (show(0:Int)<0 from h) (by decide)
 ·rename_i h1;rw[if_neg h1]at h;split;·rename_i h2;rw[if_pos h2]at h;exact absurd (show(1:Int)<0 from h) (by decide)
  ·exact⟨rfl,rfl⟩
def rA (c:Su×Int):AV := .tup [.agg [aI c.1.g,aI c.1.r,aI c.1.m,aI c.1.z],aI (chA c.2),aI (uO c.2)]
theorem AAk (x y:bA):JX (Gk x y).1 (Gk x y).2=rA (Gk x y):=by
 rw[YK,rA];by_cases h:(Gk x y).2<0;·obtain⟨h1,h2⟩:=XD h;rw[h1,h2];rfl
 ·rw[uF,if_neg h]
theorem AGC (x y:bA)(hx:(x.size:Int)<=9223372036854775807)(hy:(y.size:Int)<=9223372036854775807):Runs A8 35 [aL (AK [x,y])] [] (rA (Gk x y)) []:=by obtain⟨b,a,h1,h2⟩:=p35 [x,y] ⟨by simp,λs hs=>by rcases List.mem_cons.1 hs with rfl|hs;exact hx;rw[List.mem_singleton.1 hs];exact hy⟩;obtain⟨rfl,rfl⟩:=Xz h1 (XC x y);rw[AAk]at h2;exact((h2.up Ea).up C5).up Gu
def fdo (x:Fnd×Int):AV := .tup [FB x.1,aI x.2]
theorem dI {b:List bA}{now:List Bool}{n i:Nat}(h:i<n)(ht:tr now i=true):(F9 b now i++List.replicate (n-i) Ar).set i (blk b i)=F9 b now (i+1)++List.replicate (n-(i+1)) Ar:=by rw[show n-i=(n-(i+1))+1 by omega,List.replicate_succ,List.set_append_right _ _ (by rw[Jy];omega),Jy,Nat.sub_self,List.set_cons_zero,LP,ht,if_pos rfl];simp
theorem oL {b:List bA}{now:List Bool}{n i:Nat}(h:i<n)(ht:tr now i=false):F9 b now i++List.replicate (n-i) Ar=F9 b now (i+1)++List.replicate (n-(i+1)) Ar:=by rw[show n-i=(n-(i+1))+1 by omega,List.replicate_succ,LP,ht,if_neg (by simp)];simp
theorem p9 (b:List bA)(p:List Wr)(hf:Fits b p):Runs A8 9 [CK b p] [] (fdo (AF b p)) []:=by
 have g1:=(((uQ b p hf).up Ea).up C5).up Gu;rw[CK]at g1;refine Ag (c:=c9) rfl rfl ?_;rw[CK,vc9,(V9e _ _ _).down,Cg,Dq];refine⟨_,g1,Aa (λh=>?_) (λh=>?_)⟩;·rw[AF,if_pos (.inl (by simpa using h))];rfl
 have hr:Rt b p=true:=by simpa using h
 refine Ab (λh=>?_) (λh=>?_);·rw[AF,if_pos (.inr (λe=>by rw[e]at h;simp at h))];rfl
 have hp:p=[]:=List.length_eq_zero_iff.1 (by omega);have c0:¬(Rt b p=false\/p≠[]):=by rw[hr];simp[hp]
 refine Ab (λh=>?_) (λh24=>?_);·rw[AF,if_neg c0,if_pos (by omega)];rfl
 have hn:24<=b.length:=by omega
 obtain⟨t1,⟨t2,t3,t4⟩,t5⟩:=GS hr;have hb:∀x∈b,x.size<=4096:=λx hx=>(RS (t1 x hx)).2;have bsz:∀i:Int,((blk b i).size:Int)<=9223372036854775807:=λi=>by
  unfold blk
  cases hx:b[i.toNat]? with
  | none=>decide
  | some s=>have:=hb s (List.mem_of_getElem? hx);show(s.size:Int)<=_;omega
 have g2:=AGC (blk b 0) (blk b 1) (bsz 0) (bsz 1);refine⟨rfl,by decide,_,KW (i:=0) (by decide) (by omega),_,rfl,rfl,by decide,_,KW (i:=1) (by decide) (by omega),_,rfl,rfl,_,_,_,_,_,_,g2,?_⟩;rw[AF,if_neg c0,if_neg (by omega)];have hno:=XD (x:=blk b 0) (y:=blk b 1);have hok:=sV (x:=blk b 0) (y:=blk b 1);generalize Gk (blk b 0) (blk b 1)=c at hno hok |-;by_cases hc:c.2<0
 ·rw[if_pos (.inl hc)];refine Aa (λ_=>rfl) (λh=>?_);have:uO c.2=0:=by simpa using h
  rw[uO,if_pos hc]at this;cases this
 obtain⟨hsu,hsl⟩:=hok hc;have ea:chA c.2=c.2:=by rw[chA,if_neg hc]
 rw[uO,if_neg hc,ea];refine Aa (λh=>by simp at h) (λ_=>Aa (λh=>?_) (λh=>?_));·rw[if_pos (.inr (.inl (by simpa using h)))];rfl
 have hz:c.1.z=b.length:=by simpa using h
 refine Ab (λh=>by rw[if_pos (.inr (.inr h))];rfl) (λhg=>?_);rw[if_neg (by omega)];have hm:=hsu.2.2.2.2.2;have g3:=p36 b p c.1 (λx hx=>by have:=hb x hx;omega) (by omega) (by omega);rw[CK,UO]at g3
 cases hrow:SE b c.1 with
 | none=> rw[hrow]at g3;exact⟨_,_,g3,Aa (λ_=>rfl) (λh=>by cases h)⟩
 | some now=>
  rw[hrow]at g3;have hlen:=(VE hrow).1;have hnl:now.length=b.length:=by omega
  refine⟨_,_,g3,Aa (λh=>by cases h) (λ_=>?_)⟩;rw[hz,Int.toNat_natCast,Ac (c.1.g+1) (by have:=hsu.1;omega)];refine⟨by omega,by omega,?_⟩;rw[XH];rw[show(some now).getD []=now from rfl,AI];refine⟨λi q=>∃n:Nat,i=n/\n<=now.length/\q=(0,AK (F9 b now n++List.replicate (now.length-n) Ar)),λi _=>(now.length-i).toNat,⟨rfl,0,rfl,by omega,by rw[hnl];rfl⟩,?_⟩;rintro _ _ ⟨n,rfl,hnn,rfl⟩ _;refine Ab (λhlt=>?_) (λhge=>?_)
  ·have hi:n<now.length:=by omega
   have hbi:(bk b)[(n:Int).toNat]?=some (.str (blk b n)):=KW (by omega) (by omega);have e1:wI ((n:Int)+1)=((n+1:Nat):Int):=by rw[Ac _ (by omega)];omega
   refine⟨rfl,by omega,_,BU (i:=(n:Int).toNat) (by omega),_,rfl,?_⟩;have et:now[(n:Int).toNat]=tr now n:=by rw[Dl hi];rfl
   have el:(AK (F9 b now n++List.replicate (now.length-n) Ar)).length=now.length:=by simp[AK,Jy];omega
   rw[et,e1];refine Aa (λht=>?_) (λht=>?_)
   ·refine⟨rfl,by omega,_,hbi,_,rfl,⟨rfl,rfl⟩,by omega,by dsimp only;omega,⟨⟨⟨rfl,rfl⟩,rfl⟩,rfl⟩,by dsimp only;omega,?_⟩;repeat (refine And.intro rfl ?_)
    refine⟨⟨n+1,rfl,hi,?_⟩,by first|omega|(dsimp only;omega)⟩;dsimp only;rw[EU,Int.toNat_natCast,dI hi ht]
   ·repeat (refine And.intro rfl ?_)
    refine⟨⟨n+1,rfl,hi,?_⟩,by first|omega|(dsimp only;omega)⟩;dsimp only;rw[oL hi ht]
  ·obtain rfl:n=now.length:=by omega
   have ep:F9 b now now.length++List.replicate (now.length-now.length) Ar=IW b now:=by simp;rfl
   rw[ep];have gc:=((p37 (Ht b c.1 now) (UI hb (by omega)) [c.1.m] (by simp)).up C5).up Gu;refine⟨rfl,rfl,_,_,_,_,gc,Aa (λh=>?_) (λh=>?_)⟩
   ·have h:(ChkR (Ht b c.1 now) [c.1.m]).2≠0:=by simpa using h
    dsimp only;rw[if_pos h];rfl
   ·have h:(ChkR (Ht b c.1 now) [c.1.m]).2=0:=by simpa using h
    dsimp only;rw[if_neg (by simpa using h)];have g4:=(((p38 c.1.g ((b.take 10).drop 2) ⟨by simp;omega,λs hs=>by have:=hb s (List.mem_of_mem_take (List.mem_of_mem_drop hs));omega⟩).up Ea).up C5).up Gu;have e4:List.drop (Int.toNat 2) (List.take (Int.toNat 10) (bk b))=AK ((b.take 10).drop 2):=by rw[bk,<-List.map_take,<-List.map_drop];rfl
    refine⟨rfl,by decide,by omega,by decide,by decide,_,by rw[e4];exact g4,rfl,?_⟩;rw[<-hz];rfl
end Go.Proofs.YtjmpnbbeplgchabGreatDoor.M
