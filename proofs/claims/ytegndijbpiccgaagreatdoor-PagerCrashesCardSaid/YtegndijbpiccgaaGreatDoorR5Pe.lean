import Derived.Test.YtegndijbpiccgaaGreatDoorR5Pa
import Derived.Test.YtegndijbpiccgaaGreatDoorR5Pm
namespace Go.Proofs.YtegndijbpiccgaaGreatDoor.M
set_option linter.unusedVariables false
set_option linter.unusedSimpArgs false
open Go Go.Mir
abbrev Dj (l:Int):Prop := -9223372036854775808<=l/\l<=9223372036854775807
def fV (x:Pw×Int):AV := .tup [EG x.1,aI x.2]
def dC (s:Pw)(i:Int)(x:bA):Pw×Int:=
 if s.left=0 then (s,140) else if A6 s.b s.p i≠0 then (s,A6 s.b s.p i) else if 4096<x.size\/2048<=s.p.length then (s,2) else (⟨s.b,s.p++[nwW i x],dn s.left⟩,0)
def jJ (s:Pw):Pw×Int:=
 if s.left=0 then (s,140) else if Rt s.b s.p=true then (⟨D7 (λ_=>255) s.b s.p s.p.length,[],dn s.left⟩,0) else (s,1)
def gM (i:Int)(s:bA):Heap:=[hB 1900001 [aI i],hB 1900002 [aS s]]
def FX (b:List bA)(p:List Wr)(i:Int)(s:bA):(List bA×List Wr)×Int:=
 if A6 b p i≠0 then (([],[]),A6 b p i) else if 4096<s.size\/2048<=p.length then (([],[]),2) else ((b,p++[nwW i s]),0)
theorem NU (b:List bA)(p:List Wr)(i:Int)(s:bA):GO b p i s = .tup [.agg [aL (bk (FX b p i s).1.1),.o (.sl 2 (pk (FX b p i s).1.2))],aI (FX b p i s).2]:=by
 unfold GO FX CO;split;·rfl
 ·split<;>rfl
theorem p52 (b:List bA)(p:List Wr)(i:Int)(s:bA)(hf:Fits b p)(hs:(s.size:Int)<=9223372036854775807):Runs A5 52 [CO b p,.ptr 1900001 0,.ptr 1900002 0] (gM i s) (GO b p i s) (gM i s):=by have g:=(((p53 b p i s hf hs).up E4).up DL).up Kf;rw[NU]at g |-;refine Ca (c:=c52) rfl rfl (by kernel_rfl) ?_;rw[CO,gM,zS,(AA7 _ _ _ _ _).down];exact⟨_,_,_,g,rfl,rfl⟩
theorem TW {l:Int}(h:Dj l)(h0:l > 0):w6 (l-1)=dn l:=by rw[Ad _ (by unfold Dj at h;omega),dn,if_pos h0]
theorem ACO (s:Pw)(i:Int)(x:bA)(hf:Fits s.b s.p)(hs:(x.size:Int)<=9223372036854775807)(hl:Dj s.left):Runs A5 51 [EG s,.fn 52 [.ptr 1900001 0,.ptr 1900002 0]] (gM i x) (fV (dC s i x)) (gM i x):=by
 have g:=p52 s.b s.p i x hf hs;rw[NU,gM,CO]at g;refine Ca (c:=c51) rfl rfl (by kernel_rfl) ?_;rw[EG,gM,yK,(uB _ _ _ _ _ _).down];refine Aa (λh=>?_) (λh=>?_)
 ·have h:s.left=0:=by simpa using h
  rw[dC,if_pos h];exact⟨rfl,rfl⟩
 ·have h:¬s.left=0:=by simpa using h
  refine⟨_,_,_,g,Aa (λh2=>?_) (λh2=>?_)⟩
  ·have h2:(FX s.b s.p i x).2≠0:=by simpa using h2
   refine⟨?_,rfl⟩;unfold FX at h2 |-;rw[dC,if_neg h];split;·rfl
   ·rename_i h3;rw[if_neg h3]at h2;split;·rfl
    ·rename_i h4;rw[if_neg h4]at h2;exact absurd rfl h2
  ·have h2:(FX s.b s.p i x).2=0:=by simpa using h2
   have e:FX s.b s.p i x=((s.b,s.p++[nwW i x]),0)/\dC s i x=(⟨s.b,s.p++[nwW i x],dn s.left⟩,0):=by
    unfold FX at h2 |-;rw[dC,if_neg h];split at h2;·rename_i h3;exact absurd h2 h3
    ·rename_i h3;split at h2;·cases h2
     ·rename_i h4;rw[if_neg h3,if_neg h4,if_neg h3,if_neg h4];exact⟨rfl,rfl⟩
   rw[e.1,e.2];refine Ab (λh3=>?_) (λh3=>?_);·rw[TW hl h3];exact⟨rfl,rfl⟩
   ·rw[dn,if_neg h3];exact⟨rfl,rfl⟩
theorem p19 (s:Pw)(i:Int)(x:bA)(hf:Fits s.b s.p)(hs:(x.size:Int)<=9223372036854775807)(hl:Dj s.left):Runs A5 19 [EG s,aI i,aS x] [] (fV (dC s i x)) []:=by have g:=ACO s i x hf hs hl;rw[EG,gM,fV,EG]at g;refine An (c:=c19) rfl rfl ?_;rw[EG,ACG,(AEq _ _ _ _ _ _).down];exact⟨_,_,_,_,g,rfl⟩
theorem AGf (s:Pw)(hf:Fits s.b s.p)(hl:Dj s.left):Runs A5 51 [EG s,.fn 54 []] [] (fV (jJ s)) []:=by
 have g:=(((p54 s.b s.p hf).up E4).up DL).up Kf;rw[CO]at g;refine An (c:=c51) rfl rfl ?_;rw[EG,wU,(ABt _ _ _ _).down];refine Aa (λh=>?_) (λh=>?_)
 ·have h:s.left=0:=by simpa using h
  rw[jJ,if_pos h];rfl
 ·have h:¬s.left=0:=by simpa using h
  rw[jJ,if_neg h];by_cases hr:Rt s.b s.p=true
  ·rw[MA,if_pos hr,CO]at g;rw[if_pos hr];refine⟨_,_,_,g,Aa (λh=>by simp at h) (λ_=>Ab (λh3=>?_) (λh3=>?_))⟩;·rw[TW hl h3];rfl
   ·rw[dn,if_neg h3];rfl
  ·rw[MA,if_neg hr,CO]at g;rw[if_neg hr];exact⟨_,_,_,g,Aa (λ_=>rfl) (λh=>by simp at h)⟩
theorem p20 (s:Pw)(hf:Fits s.b s.p)(hl:Dj s.left):Runs A5 20 [EG s] [] (fV (jJ s)) []:=by have g:=AGf s hf hl;rw[EG,fV,EG]at g;refine An (c:=c20) rfl rfl ?_;rw[EG,AFQ,(AC2 _ _ _ _).down];exact⟨_,_,_,_,g,rfl⟩
theorem qB {s:Pw}{i:Int}{x:bA}(h:Rt s.b s.p=true)(h0:0<=i):dC s i x=Gw s (i,x):=by
 rw[dC,Gw];by_cases hl:s.left=0;·rw[if_pos hl,if_pos hl]
 ·rw[if_neg hl,if_neg hl,if_neg (show ¬((i,x):Int×bA).1<0 from λh=>absurd h (by show ¬i<0;omega))];by_cases hi:i>=s.b.length
  ·have e:A6 s.b s.p i=30:=by rw[A6,if_neg (by rw[h];simp),if_pos (.inr hi)]
   rw[e,if_pos (by simp),if_pos (show(i,x).1>=s.b.length from hi)]
  ·have e:A6 s.b s.p i=0:=by rw[A6,if_neg (by rw[h];simp),if_neg (by omega)]
   rw[e,if_neg (by simp),if_neg (show ¬(i,x).1>=s.b.length from hi)]
theorem qU {s:Pw}(h:Rt s.b s.p=true):jJ s=Gw s (-1,empS):=by rw[jJ,Gw,if_pos h,if_pos (show((-1:Int),empS).1<0 by decide)]
def MI (s:Pw)(e:Int):Heap:=[hB 2402302 [aL (bk s.b),.o (.sl 2 (pk s.p)),aI s.left,aI e]]
def ZN (x:Pw×Int)(i:Int)(s:bA):Pw×Int:=if x.2=0 then dC x.1 i s else x
def ZR (x:Pw×Int):Pw×Int:=if x.2=0 then jJ x.1 else x
theorem p61 (x:Pw×Int)(i:Int)(s:bA)(hf:Fits x.1.b x.1.p)(hs:(s.size:Int)<=9223372036854775807)(hl:Dj x.1.left):Runs A5 61 [.ptr 2402302 0,aI i,aS s] (MI x.1 x.2) (.tup []) (MI (ZN x i s).1 (ZN x i s).2):=by
 have g:=p19 x.1 i s hf hs hl;rw[fV,EG,EG]at g;have key:∃r H',Runs A5 61 [.ptr 2402302 0,.n (.int .i64 i),.n (.str s)] (MI x.1 x.2) r H'/\(r = .tup []/\H'=MI (ZN x i s).1 (ZN x i s).2):=DH (R:=λr H'=>r = .tup []/\H'=MI (ZN x i s).1 (ZN x i s).2) ADO rfl (by kernel_rfl) (by
  rw[MI,wO,(vF _ _ _ _ _ _ _).down];refine Aa (λh=>?_) (λh=>?_)
  ·have h:x.2=0:=by simpa using h
   rw[ZN,if_pos h];exact⟨_,_,_,_,g,rfl,rfl⟩
  ·have h:¬x.2=0:=by simpa using h
   rw[ZN,if_neg h];exact⟨rfl,rfl⟩)
 obtain⟨r,H',hr,rfl,rfl⟩:=key;exact hr
theorem p62 (x:Pw×Int)(hf:Fits x.1.b x.1.p)(hl:Dj x.1.left):Runs A5 62 [.ptr 2402302 0] (MI x.1 x.2) (.tup []) (MI (ZR x).1 (ZR x).2):=by
 have g:=p20 x.1 hf hl;rw[fV,EG,EG]at g;have key:∃r H',Runs A5 62 [.ptr 2402302 0] (MI x.1 x.2) r H'/\(r = .tup []/\H'=MI (ZR x).1 (ZR x).2):=DH (R:=λr H'=>r = .tup []/\H'=MI (ZR x).1 (ZR x).2) AFn rfl (by kernel_rfl) (by
  rw[MI,ABK,(AAm _ _ _ _ _).down];refine Aa (λh=>?_) (λh=>?_)
  ·have h:x.2=0:=by simpa using h
   rw[ZR,if_pos h];exact⟨_,_,_,_,g,rfl,rfl⟩
  ·have h:¬x.2=0:=by simpa using h
   rw[ZR,if_neg h];exact⟨rfl,rfl⟩)
 obtain⟨r,H',hr,rfl,rfl⟩:=key;exact hr
theorem p58 (e:Int):Runs A5 58 [aI e] [] (.tup [EG Tz,Db fd0,aI e]) []:=by refine An (c:=c58) rfl rfl ?_;rw[AF5,(AGq _ _).down];rfl
theorem p26 (b:List bA)(p:List Wr)(f:Fnd)(hf:Fits b p)(hw:WFits f.wd):Runs A5 26 [CO b p,Db f] [] (.n (.bool (decide (FitsP b p f)))) []:=by
 have g1:=(((tO b p hf).up E4).up DL).up Kf;have g2:=(((p66 f.su).up E4).up DL).up Kf;have g3:=((sT f.wd hw).up DL).up Kf;rw[CO]at g1;rw[Vz]at g2;rw[EA]at g3;have no:¬FitsP b p f->AV.n (D.bool false) = .n (.bool (decide (FitsP b p f))):=λh=>by rw[decide_eq_false h]
 refine An (c:=c26) rfl rfl ?_;rw[CO,Db,AGx,(AFa _ _ _ _ _ _ _ _ _ _ _ _ _ _).down,CL,AH];refine⟨_,g1,Aa (λh=>no λhx=>by rw[hx.1]at h;cases h) (λh1=>⟨_,g2,Aa (λh=>no λhx=>by rw[decide_eq_true hx.2.1]at h;cases h) (λh2=>Aa (λh=>no λhx=>by have:=hx.2.2.2.1;simp[this]at h) (λh3=>?_))⟩)⟩;have h1:Rt b p=true:=by simpa using h1
 have h2:suOK f.su:=by simpa using h2
 have h3:f.su.z=b.length:=by simpa using h3
 have rest:(f.slot=0\/f.slot=1)->∃x5:Bool,Runs A5 67 [.agg [aL (Bg f.wd.base),aL (Bg f.wd.now),aL (AG f.wd.pages),aI f.wd.root,aI f.wd.gen]] [] (aB x5) []/\Ae x5 (Ae (((f.wd.now.length:Nat):Int)==f.su.z) (Ae (f.wd.gen==w6 (f.su.g+1)) (rn 1/\(0:Int)<=f.su.m/\∃x6:Mir.D,(Bg f.wd.now)[Int.toNat f.su.m]?=some x6/\∃x7:Bool,(D.cells x6)[0]?=some (D.bool x7)/\Ae x7 (AV.n (D.bool (f.wd.root != f.su.m)) = .n (.bool (decide (FitsP b p f)))) (AV.n (D.bool false) = .n (.bool (decide (FitsP b p f))))) (AV.n (D.bool false) = .n (.bool (decide (FitsP b p f))))) (AV.n (D.bool false) = .n (.bool (decide (FitsP b p f))))) (AV.n (D.bool false) = .n (.bool (decide (FitsP b p f)))):=λhs=>by
  refine⟨_,g3,Aa (λh4=>Aa (λh5=>Aa (λh6=>?_) (λh=>no λhx=>?_)) (λh=>no λhx=>?_)) (λh=>no λhx=>?_)⟩
  ·have h4:WRight f.wd:=by simpa using h4
   have h5:(f.wd.now.length:Int)=f.su.z:=by simpa using h5
   have hg:=h2.2.1;have hm:=h2.2.2.2.2.2;rw[Ad _ (by have:=h2.1;omega)]at h6;have h6:f.wd.gen=f.su.g+1:=by simpa using h6
   have hi:f.su.m.toNat<f.wd.now.length:=by omega
   refine⟨rfl,by omega,_,Cg hi,_,rfl,Aa (λh7=>?_) (λh7=>no λhx=>?_)⟩
   ·congr 2;by_cases hr:f.wd.root=f.su.m;·rw[decide_eq_false (λhx=>hx.2.2.2.2.2.2.2.2 hr)];simp[hr]
    ·rw[decide_eq_true ⟨h1,h2,h4,h3,by omega,hs,h6,by rw[DN hi];exact h7,hr⟩];simpa using hr
   ·have:=hx.2.2.2.2.2.2.2.1;rw[DN hi,h7]at this;cases this
  ·have:=hx.2.2.2.2.2.2.1;have hg:=h2.2.1;rw[Ad _ (by have:=h2.1;omega),this]at h;simp at h
  ·have:=hx.2.2.2.2.1;rw[this,h3]at h;simp at h
  ·have:=hx.2.2.1;rw[decide_eq_true this]at h;cases h
 refine Aa (λh4=>Aa (λh5=>no λhx=>?_) (λh5=>?_)) (λh4=>?_)
 ·have h4:f.slot≠0:=by simpa using h4
  have h5:f.slot≠1:=by simpa using h5
  exact hx.2.2.2.2.2.1.elim h4 h5
 ·exact rest (.inr (by simpa using h5))
 ·exact rest (.inl (by simpa using h4))
theorem LR {b:List bA}{i:Int}(h0:0<=i)(hi:i<b.length):(bk b)[i.toNat]?=some (.str (blk b i)):=by rw[bk,List.getElem?_map,RY h0 hi];rfl
def AGi (o:Option (List Bool)):AV := .tup [aL (Bg (o.getD [])),aB o.isSome]
theorem N8 {s:bA}{g z e:Int}(he:e≠0)(h:GetPR s=EN e):LS s g z=none:=by rw[LS,h,EN,pg];dsimp only;rw[if_neg (λh=>he h.1)]
theorem PB {s:bA}{g z k g':Int}{y:bA}(h:GetPR s = .tup [pg k g' y,aI 0]):LS s g z=if k=3/\g'<=g/\(F7 y z).2=0 then some (F7 y z).1 else none:=by
 rw[LS,h,pg];dsimp only;by_cases h1:k=3/\g'<=g/\(F7 y z).2=0;·rw[if_pos h1,if_pos ⟨rfl,h1⟩]
 ·rw[if_neg h1,if_neg (λh=>h1 h.2)]
theorem VH {s:bA}{g z:Int}{now:List Bool}(h:LS s g z=some now):(now.length:Int)=z/\0<=z/\z<=2048:=by
 rcases A7 s with⟨e,he,h2⟩|⟨k,g',y,h2,_⟩
 ·rw[N8 he h2]at h;cases h
 ·rw[PB h2]at h;split at h;·rename_i h1;obtain rfl:=Option.some.inj h;exact eO h1.2.2
  ·cases h
theorem cF {s:bA}{n:Int}(h:(F7 s n).2≠0):(F7 s n).1=[]:=by
 unfold F7 at h |-;split;·rfl
 ·rename_i h1;rw[if_neg h1]at h;split;·rfl
  ·rename_i h2;rw[if_neg h2]at h;split;·rfl
   ·rename_i h3;rw[if_neg h3]at h;exact absurd rfl h
theorem p43 (b:List bA)(p:List Wr)(s:Su)(hs:∀x∈b,(x.size:Int)<=9223372036854775807)(h0:0<=s.m)(hm:s.m<b.length):Runs A5 43 [CO b p,Vz s] [] (AGi (SS b s)) []:=by
 have hsz:((blk b s.m).size:Int)<=9223372036854775807:=by have:=RY h0 hm;exact hs _ (List.mem_of_getElem? this)
 refine An (c:=c43) rfl rfl ?_;rw[CO,Vz,AFO,(AEL _ _ _ _ _ _ _).down];refine⟨rfl,h0,_,LR h0 hm,_,rfl,rfl,?_⟩;rcases A7 (blk b s.m) with⟨e,he,h2⟩|⟨k,g',y,h2,h3,_⟩
 ·have g:=(((KG (blk b s.m) hsz [3] e he h2).up E4).up DL).up Kf;rw[SS,N8 he h2];exact⟨_,_,_,_,g,Aa (λ_=>rfl) (λh=>absurd (by simpa using h) he)⟩
 ·have g:=(((OO (blk b s.m) hsz [3] (by decide) k g' y h2).up E4).up DL).up Kf;rw[SS,PB h2];by_cases hk:k=3
  ·subst hk;rw[if_pos (by simp)]at g;refine⟨_,_,_,_,g,Aa (λh=>by simp at h) (λ_=>Ab (λh=>?_) (λh=>?_))⟩;·rw[if_neg (λhx=>by omega)];rfl
   ·refine⟨_,_,p91 y (by have:=h3.2.2.2.2;omega) s.z,?_⟩;by_cases hu:(F7 y s.z).2=0;·rw[if_pos ⟨rfl,by omega,hu⟩,hu];rfl
    ·rw[if_neg (λhx=>hu hx.2.2),cF hu];show AV.tup [_,.n (.bool ((F7 y s.z).2==0))] = .tup [_,.n (.bool false)];rw[beq_false_of_ne hu];rfl
  ·rw[if_neg (by simpa using hk)]at g;rw[if_neg (λhx=>hk hx.1)];exact⟨_,_,_,_,g,Aa (λ_=>rfl) (λh=>by simp at h)⟩
def Gm (b:List bA)(now:List Bool)(n:Nat):List bA:=(List.range n).map λi=>if tr now i then (b[i]?).getD empS else empS
theorem JC (b:List bA)(now:List Bool)(n:Nat):(Gm b now n).length=n:=by simp[Gm]
theorem Ll (b:List bA)(now:List Bool)(n:Nat):Gm b now (n+1)=Gm b now n++[if tr now n then blk b n else empS]:=by simp[Gm,List.range_succ,blk]
theorem Vx {b:List bA}{s:Su}{now:List Bool}(hb:∀s∈b,s.size<=4096)(hn:now.length<=2048):WFits (G1 b s now):=by
 refine⟨by show Small now.length;unfold Small;omega,by show Small now.length;unfold Small;omega,by show Small (Gp b now).length;rw[DE];unfold Small;omega,λx hx=>?_⟩;obtain⟨i,_,rfl⟩:=List.mem_map.1 hx;unfold Small;split
 ·cases hy:b[i]? with
  | none=>decide
  | some y=>have:=hb y (List.mem_of_getElem? hy);show(y.size:Int)<=_;omega
 ·decide
theorem jR {x y:bA}(h:¬(HY x y).2<0):suOK (HY x y).1/\((HY x y).2=0\/(HY x y).2=1):=by
 unfold HY at h |-;split
 ·rename_i h1;refine⟨?_,.inl rfl⟩;rcases Ij x with h2|h2;·exact h2.2
  ·exact absurd h1.1 h2.1
 ·rename_i h1;rw[if_neg h1]at h;split
  ·rename_i h2;refine⟨?_,.inr rfl⟩;rcases Ij y with h3|h3;·exact h3.2
   ·exact absurd h2 h3.1
  ·rename_i h2;rw[if_neg h2]at h;exact absurd (by decide) h
theorem YU {x y:bA}(h:(HY x y).2<0):(HY x y).2 = -1/\(HY x y).1=L9:=by
 unfold HY at h |-;split;·rename_i h1;rw[if_pos h1]at h;exact absurd (show(0:Int)<0 from h) (by decide)
 ·rename_i h1;rw[if_neg h1]at h;split;·rename_i h2;rw[if_pos h2]at h;exact absurd (show(1:Int)<0 from h) (by decide)
  ·exact⟨rfl,rfl⟩
def pU (c:Su×Int):AV := .tup [.agg [aI c.1.g,aI c.1.r,aI c.1.m,aI c.1.z],aI (chA c.2),aI (sM c.2)]
theorem AB2 (x y:bA):Kc (HY x y).1 (HY x y).2=pU (HY x y):=by
 rw[Zf,pU];by_cases h:(HY x y).2<0;·obtain⟨h1,h2⟩:=YU h;rw[h1,h2];rfl
 ·rw[sG,if_neg h]
theorem AGc (x y:bA)(hx:(x.size:Int)<=9223372036854775807)(hy:(y.size:Int)<=9223372036854775807):Runs A5 42 [aL (AG [x,y])] [] (pU (HY x y)) []:=by obtain⟨b,a,h1,h2⟩:=p42 [x,y] ⟨by simp,λs hs=>by rcases List.mem_cons.1 hs with rfl|hs;exact hx;rw[List.mem_singleton.1 hs];exact hy⟩;obtain⟨rfl,rfl⟩:=YL h1 (Yj x y);rw[AB2]at h2;exact((h2.up E4).up DL).up Kf
def iG (x:Fnd×Int):AV := .tup [Db x.1,aI x.2]
theorem dH {b:List bA}{now:List Bool}{n i:Nat}(h:i<n)(ht:tr now i=true):(Gm b now i++List.replicate (n-i) empS).set i (blk b i)=Gm b now (i+1)++List.replicate (n-(i+1)) empS:=by rw[show n-i=(n-(i+1))+1 by omega,List.replicate_succ,List.set_append_right _ _ (by rw[JC];omega),JC,Nat.sub_self,List.set_cons_zero,Ll,ht,if_pos rfl];simp
theorem kS {b:List bA}{now:List Bool}{n i:Nat}(h:i<n)(ht:tr now i=false):Gm b now i++List.replicate (n-i) empS=Gm b now (i+1)++List.replicate (n-(i+1)) empS:=by rw[show n-i=(n-(i+1))+1 by omega,List.replicate_succ,Ll,ht,if_neg (by simp)];simp
theorem sO (b:List bA)(p:List Wr)(hf:Fits b p):Runs A5 16 [CO b p] [] (iG (GJ b p)) []:=by
 have g1:=(((tO b p hf).up E4).up DL).up Kf;rw[CO]at g1;refine An (c:=c16) rfl rfl ?_;rw[CO,AGH,(AGr _ _ _).down,CL,EK];refine⟨_,g1,Aa (λh=>?_) (λh=>?_)⟩;·rw[GJ,if_pos (.inl (by simpa using h))];rfl
 have hr:Rt b p=true:=by simpa using h
 refine Ab (λh=>?_) (λh=>?_);·rw[GJ,if_pos (.inr (λe=>by rw[e]at h;simp at h))];rfl
 have hp:p=[]:=List.length_eq_zero_iff.1 (by omega);have c0:¬(Rt b p=false\/p≠[]):=by rw[hr];simp[hp]
 refine Ab (λh=>?_) (λh24=>?_);·rw[GJ,if_neg c0,if_pos (by omega)];rfl
 have hn:24<=b.length:=by omega
 obtain⟨t1,⟨t2,t3,t4⟩,t5⟩:=Ic hr;have hb:∀x∈b,x.size<=4096:=λx hx=>(Sv (t1 x hx)).2;have bsz:∀i:Int,((blk b i).size:Int)<=9223372036854775807:=λi=>by
  unfold blk
  cases hx:b[i.toNat]? with
  | none=>decide
  | some s=>have:=hb s (List.mem_of_getElem? hx);show(s.size:Int)<=_;omega
 have g2:=AGc (blk b 0) (blk b 1) (bsz 0) (bsz 1);refine⟨rfl,by decide,_,LR (i:=0) (by decide) (by omega),_,rfl,rfl,by decide,_,LR (i:=1) (by decide) (by omega),_,rfl,rfl,_,_,_,_,_,_,g2,?_⟩;rw[GJ,if_neg c0,if_neg (by omega)];have hno:=YU (x:=blk b 0) (y:=blk b 1);have hok:=jR (x:=blk b 0) (y:=blk b 1);generalize HY (blk b 0) (blk b 1)=c at hno hok |-;by_cases hc:c.2<0
 ·rw[if_pos (.inl hc)];refine Aa (λ_=>rfl) (λh=>?_);have:sM c.2=0:=by simpa using h
  rw[sM,if_pos hc]at this;cases this
 obtain⟨hsu,hsl⟩:=hok hc;have ea:chA c.2=c.2:=by rw[chA,if_neg hc]
 rw[sM,if_neg hc,ea];refine Aa (λh=>by simp at h) (λ_=>Aa (λh=>?_) (λh=>?_));·rw[if_pos (.inr (.inl (by simpa using h)))];rfl
 have hz:c.1.z=b.length:=by simpa using h
 refine Ab (λh=>by rw[if_pos (.inr (.inr h))];rfl) (λhg=>?_);rw[if_neg (by omega)];have hm:=hsu.2.2.2.2.2;have g3:=p43 b p c.1 (λx hx=>by have:=hb x hx;omega) (by omega) (by omega);rw[CO,Vz]at g3
 cases hrow:SS b c.1 with
 | none=> rw[hrow]at g3;exact⟨_,_,g3,Aa (λ_=>rfl) (λh=>by cases h)⟩
 | some now=>
  rw[hrow]at g3;have hlen:=(VH hrow).1;have hnl:now.length=b.length:=by omega
  refine⟨_,_,g3,Aa (λh=>by cases h) (λ_=>?_)⟩;rw[hz,Int.toNat_natCast,Ad (c.1.g+1) (by have:=hsu.1;omega)];refine⟨by omega,by omega,?_⟩;rw[XO];rw[show(some now).getD []=now from rfl,AH];refine⟨λi q=>∃n:Nat,i=n/\n<=now.length/\q=(0,AG (Gm b now n++List.replicate (now.length-n) empS)),λi _=>(now.length-i).toNat,⟨rfl,0,rfl,by omega,by rw[hnl];rfl⟩,?_⟩;rintro _ _ ⟨n,rfl,hnn,rfl⟩ _;refine Ab (λhlt=>?_) (λhge=>?_)
  ·have hi:n<now.length:=by omega
   have hbi:(bk b)[(n:Int).toNat]?=some (.str (blk b n)):=LR (by omega) (by omega);have e1:w6 ((n:Int)+1)=((n+1:Nat):Int):=by rw[Ad _ (by omega)];omega
   refine⟨rfl,by omega,_,Cg (i:=(n:Int).toNat) (by omega),_,rfl,?_⟩;have et:now[(n:Int).toNat]=tr now n:=by rw[DN hi];rfl
   have el:(AG (Gm b now n++List.replicate (now.length-n) empS)).length=now.length:=by simp[AG,JC];omega
   rw[et,e1];refine Aa (λht=>?_) (λht=>?_)
   ·refine⟨rfl,by omega,_,hbi,_,rfl,⟨rfl,rfl⟩,by omega,by dsimp only;omega,⟨⟨⟨rfl,rfl⟩,rfl⟩,rfl⟩,by dsimp only;omega,?_⟩;repeat (refine And.intro rfl ?_)
    refine⟨⟨n+1,rfl,hi,?_⟩,by first|omega|(dsimp only;omega)⟩;dsimp only;rw[Fe,Int.toNat_natCast,dH hi ht]
   ·repeat (refine And.intro rfl ?_)
    refine⟨⟨n+1,rfl,hi,?_⟩,by first|omega|(dsimp only;omega)⟩;dsimp only;rw[kS hi ht]
  ·obtain rfl:n=now.length:=by omega
   have ep:Gm b now now.length++List.replicate (now.length-now.length) empS=Gp b now:=by simp;rfl
   rw[ep];have gc:=((p44 (G1 b c.1 now) (Vx hb (by omega)) [c.1.m] (by simp)).up DL).up Kf;refine⟨rfl,rfl,_,_,_,_,gc,Aa (λh=>?_) (λh=>?_)⟩
   ·have h:(ChkR (G1 b c.1 now) [c.1.m]).2≠0:=by simpa using h
    dsimp only;rw[if_pos h];rfl
   ·have h:(ChkR (G1 b c.1 now) [c.1.m]).2=0:=by simpa using h
    dsimp only;rw[if_neg (by simpa using h)];have g4:=(((p45 c.1.g ((b.take 10).drop 2) ⟨by simp;omega,λs hs=>by have:=hb s (List.mem_of_mem_take (List.mem_of_mem_drop hs));omega⟩).up E4).up DL).up Kf;have e4:List.drop (Int.toNat 2) (List.take (Int.toNat 10) (bk b))=AG ((b.take 10).drop 2):=by rw[bk,<-List.map_take,<-List.map_drop];rfl
    refine⟨rfl,by decide,by omega,by decide,by decide,_,by rw[e4];exact g4,rfl,?_⟩;rw[<-hz];rfl
end Go.Proofs.YtegndijbpiccgaaGreatDoor.M
