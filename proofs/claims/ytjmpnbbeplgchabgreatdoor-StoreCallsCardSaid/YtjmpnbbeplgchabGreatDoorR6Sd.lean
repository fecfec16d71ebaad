import Derived.Test.YtjmpnbbeplgchabGreatDoorR6Pj
import Derived.Test.YtjmpnbbeplgchabGreatDoorR6Un
import Derived.Test.YtjmpnbbeplgchabGreatDoorR6Pq
import Derived.Test.YtjmpnbbeplgchabGreatDoorR6Sm
import Derived.Test.YtjmpnbbeplgchabGreatDoorR6SV
import Derived.Test.YtjmpnbbeplgchabGreatDoorR6FunB
import Derived.Test.YtjmpnbbeplgchabGreatDoorR6LV
import Derived.Test.YtjmpnbbeplgchabGreatDoorR6PW
namespace Go.Proofs.YtjmpnbbeplgchabGreatDoor.M
set_option linter.unusedVariables false
set_option linter.unusedSimpArgs false
open Go Go.Mir
def nX (c:Ch):Chg:=⟨c.2.2.1,c.1,c.2.1⟩
def Qv (c:Chg):Ch:=(c.key,c.val,c.gone,())
theorem ZE (l:List Chg):NS l=ck (l.map Qv):=by unfold NS ck;rw[List.map_map];rfl
theorem tG (l:List Ch):ck l=NS (l.map nX):=by rw[ZE,List.map_map,show Qv ∘ nX=id from rfl,List.map_id]
theorem O0 (s:bA):∃x:List Ch×Int,CZ s = .tup [.o (.sl 3 (ck x.1)),aI x.2]/\x.1.length<=255:=by obtain⟨l,e,h1,h2⟩:=N9 s;exact⟨(l,e),h1,h2⟩
noncomputable def E2 (s:bA):List Chg×Int:=((O0 s).choose.1.map nX,(O0 s).choose.2)
theorem gF (s:bA):CZ s = .tup [.o (.sl 3 (NS (E2 s).1)),aI (E2 s).2]:=by have h:=(O0 s).choose_spec.1;rw[tG]at h;exact h
theorem QG (s:bA):(E2 s).1.length<=255:=by have h:=(O0 s).choose_spec.2;unfold E2;rw[List.length_map];exact h
def BO (l:List Chg):bA×Int:=
 if (l.map Qv).any (λc => !EF c) then (Ar,1) else if 255<(l.map Qv).length then (Ar,2) else if 480<(P5 (l.map Qv)).length then (Ar,2) else (IP (P5 (l.map Qv)),0)
theorem Zs (l:List Chg):J0 (l.map Qv) = .tup [aS (BO l).1,aI (BO l).2]:=by
 unfold J0 BO;split;·rfl
 ·split;·rfl
  ·split<;>rfl
def Cm (gen no:Int)(body:bA):bA×Int:=
 if gen<1\/1099511627776<gen\/no<0\/7<no then (Ar,1) else if 480<body.size then (Ar,2) else (dK gen no body,0)
theorem WT (gen no:Int)(body:bA):Nb gen no body = .tup [aS (Cm gen no body).1,aI (Cm gen no body).2]:=by
 unfold Nb Cm;split;·rfl
 ·split<;>rfl
structure St where
 pw:Pw
 su:Su
 slot:Int
 wd:Wd
 seq:Int
 syn:Int
def stP (p:Pw):St:=⟨p,Kv,0,wd0,0,0⟩
def st0:St:=stP pw0
def St.fd (s:St):Fnd:=⟨s.su,s.slot,s.wd,[]⟩
def B9 (s:St):AV := .agg [aL (bk s.pw.b),.o (.sl 2 (pk s.pw.p)),aI s.pw.left,aI s.su.g,aI s.su.r,aI s.su.m,aI s.su.z,aI s.slot,aL (Bk s.wd.base),aL (Bk s.wd.now),aL (AK s.wd.pages),aI s.wd.root,aI s.wd.gen,aI s.seq,aI s.syn]
def Gr (x:St×Int):AV := .tup [B9 x.1,aI x.2]
noncomputable def EJ (w:Wd):Int:=if BJ w.base w.now then Us w else 0
def AW (s:St):Prop:=FitsP s.pw.b s.pw.p s.fd/\s.wd.gen<1099511627776/\0<=s.syn/\s.syn<=s.seq/\s.seq<=8/\EJ s.wd≠0/\(ChkR s.wd [s.su.m]).2=0
noncomputable instance (s:St):Decidable (AW s):=Classical.propDecidable _
def Fp (p:Pw)(e:Int):St×Int:=if e=140 then (stP p,140) else (st0,e)
noncomputable def AA (p:Pw)(f:Fnd):St×Int:=
 if (CommitR p f).2.2≠0 then Fp (CommitR p f).1 (CommitR p f).2.2 else (⟨(CommitR p f).1,(CommitR p f).2.1.su,(CommitR p f).2.1.slot,(CommitR p f).2.1.wd,0,0⟩,0)
noncomputable def DV:Wd->List bA->Wd×Int
 | w,[]=>(w,0)
 | w,s::r=>if (E2 s).2≠0\/(EY GQ w (E2 s).1).2≠0 then (wd0,120) else DV (EY GQ w (E2 s).1).1 r
noncomputable def GR:Wd×Int->List bA->Wd×Int
 | x,[]=>x
 | x,s::r=>GR ((EY GQ x.1 (E2 s).1).1,if x.2=0/\((E2 s).2≠0\/(EY GQ x.1 (E2 s).1).2≠0) then 120 else x.2) r
theorem Jv:∀ {r:List bA} {x:Wd×Int},x.2≠0->(GR x r).2=x.2
 | [],_,_=>rfl
 | s::r,x,h=>by rw[GR,if_neg (λhc=>h hc.1)];exact Jv (x:=(_,x.2)) h
theorem QU:∀ {r:List bA} {w:Wd},(GR (w,0) r).2=(DV w r).2/\((DV w r).2=0->(GR (w,0) r).1=(DV w r).1)
 | [],w=>⟨rfl,λ_=>rfl⟩
 | s::r,w=>by
  rw[GR,DV];dsimp only;by_cases h:(E2 s).2≠0\/(EY GQ w (E2 s).1).2≠0;·rw[if_pos h,if_pos ⟨rfl,h⟩];exact⟨Jv (x:=(_,120)) (by show(120:Int)≠0;decide),λh=>by cases h⟩
  ·rw[if_neg h,if_neg (λhc=>h hc.2)];exact QU
theorem Ud:∀ {r:List bA} {w:Wd},(DV w r).2=0\/(DV w r).2=120
 | [],w => .inl rfl
 | s::r,w=>by
  rw[DV];split;·exact .inr rfl
  ·exact Ud
noncomputable def Cp (p:Pw):St×Int:=
 if (AF p.b p.p).2≠0 then (st0,(AF p.b p.p).2)
 else if (DV (AF p.b p.p).1.wd (AF p.b p.p).1.ring).2≠0 then (st0,120)
 else AA p ⟨(AF p.b p.p).1.su,(AF p.b p.p).1.slot,(DV (AF p.b p.p).1.wd (AF p.b p.p).1.ring).1,(AF p.b p.p).1.ring⟩
noncomputable def Fe (n:Int):St×Int:=if 24<=n/\n<=2048 then Cp ⟨BS n.toNat,[],-1⟩ else (st0,1)
noncomputable def Ga (s:St):St×Int:=
 if ¬AW s then (st0,1) else if (KP s.pw).2≠0 then Fp (KP s.pw).1 (KP s.pw).2 else (⟨(KP s.pw).1,s.su,s.slot,s.wd,s.seq,s.seq⟩,0)
noncomputable def ZH (s:St):St×Int:=if ¬AW s then (st0,1) else AA s.pw s.fd
noncomputable def MW (s:St)(l:List Chg)(body:bA):St×Int:=
 if (EY GQ s.wd l).2≠0 then (st0,(EY GQ s.wd l).2)
 else if EJ (EY GQ s.wd l).1=0 then (st0,60)
 else if (Cm s.su.g s.seq body).2≠0 then (st0,(Cm s.su.g s.seq body).2)
 else if (Ki s.pw (2+s.seq) (Cm s.su.g s.seq body).1).2≠0 then Fp (Ki s.pw (2+s.seq) (Cm s.su.g s.seq body).1).1 (Ki s.pw (2+s.seq) (Cm s.su.g s.seq body).1).2
 else (⟨(Ki s.pw (2+s.seq) (Cm s.su.g s.seq body).1).1,s.su,s.slot,(EY GQ s.wd l).1,s.seq+1,s.syn⟩,0)
noncomputable def DoS (s:St)(l:List Chg):St×Int:=
 if ¬AW s then (st0,1)
 else if (BO l).2≠0 then (st0,(BO l).2)
 else if s.seq=8 then (if (AA s.pw s.fd).2≠0 then AA s.pw s.fd else MW (AA s.pw s.fd).1 l (BO l).1)
 else MW s l (BO l).1
theorem E9 {p:Pw}{e:Int}(h:e≠0):(Fp p e).2=e:=by
 unfold Fp;split;·rename_i h2;exact h2.symm
 ·rfl
theorem XV {n:Nat}(h:24<=n)(h2:n<=1000)(L:Int):AF (BS n) []=(Dk.mt (BS n) (Fb n),0)/\(Dk.mt (BS n) (Fb n)).ring=[]:=by have d:=Sl h (by omega);refine⟨d.mount,?_⟩;show EH _ 0 (((BS n).take 10).drop 2)=[];exact XU (by rw[Mh];omega) (WY h 2 (by omega) (by omega))
theorem OF {a b:Int}{A B:Prop}(h:a≠b)(x:A):Ae (a != b) A B:=by rw[show(a != b)=true by simpa using h];exact x
theorem CW {a b:Int}{A B:Prop}(h:a=b)(x:B):Ae (a != b) A B:=by rw[show(a != b)=false by simpa using h];exact x
theorem BV {a b:Int}{A B:Prop}(h:a=b)(x:A):Ae (a==b) A B:=by rw[show(a==b)=true by simpa using h];exact x
theorem SD {a b:Int}{A B:Prop}(h:a≠b)(x:B):Ae (a==b) A B:=by rw[show(a==b)=false by simpa using h];exact x
theorem A1 {a b:Int}{A B:Prop}(h1:a≠b->A)(h2:a=b->B):Ae (a != b) A B:=by
 by_cases h:a=b;·exact CW h (h2 h)
 ·exact OF h (h1 h)
theorem Cy {a b:Int}{A B:Prop}(h1:a=b->A)(h2:a≠b->B):Ae (a==b) A B:=by
 by_cases h:a=b;·exact BV h (h1 h)
 ·exact SD h (h2 h)
theorem uI (w:Wd)(ha:Small w.base.length)(hb:Small w.now.length):Runs AT 60 [G1 w.base w.now] [] (aI (EJ w)) []:=by
 have g:=(((p82 w.base w.now ha hb).up C5).up Gu).up Jg;rw[G1]at g;refine Ag (c:=c60) rfl rfl ?_;rw[G1,AFI,(ADZ _ _ _).down,AI];refine⟨_,g,?_⟩;by_cases hr:BJ w.base w.now
 ·rw[decide_eq_true hr];obtain⟨h1,h2,h3,h4⟩:=id hr;refine EG ⟨λn i=>0<=i/\i<=w.now.length/\n=CN w i.toNat,λ_ i=>(w.now.length-i).toNat,⟨rfl,by omega,by omega,rfl⟩,?_⟩;rintro n i ⟨i0,i1,rfl⟩ _;have hle:=QX w i.toNat;refine Ab (λhlt=>?_) (λhge=>?_)
  ·have hi:i.toNat<w.now.length:=by omega
   have hb':i.toNat<w.base.length:=by omega
   have e1:(i+1).toNat=i.toNat+1:=by omega
   have step:((CN w (i+1).toNat:Nat):Int)=CN w i.toNat+if AJ w i.toNat then 1 else 0:=by rw[e1,CN];split<;>simp
   refine⟨rfl,i0,_,BU hi,_,rfl,?_⟩;refine Aa (λhn=>?_) (λhn=>?_)
   ·have hn:tr w.now i.toNat=false:=by rw[Dl hi];simpa using hn
    refine⟨rfl,i0,_,BU hb',_,rfl,?_⟩;refine Aa (λhx=>?_) (λhx=>?_)
    ·have hx:tr w.base i.toNat=false:=by rw[Dl hb'];simpa using hx
     have hf:AJ w i.toNat=true:=by unfold AJ;rw[hn,hx];rfl
     rw[hf]at step;repeat (refine And.intro rfl ?_)
     rw[Ac _ (by omega),Ac _ (by omega)];exact⟨⟨by omega,by omega,by rw[step];simp⟩,by first|omega|(dsimp only;omega)⟩
    ·have hx:tr w.base i.toNat=true:=by rw[Dl hb'];simpa using hx
     have hf:AJ w i.toNat=false:=by unfold AJ;rw[hx];rfl
     rw[hf]at step;repeat (refine And.intro rfl ?_)
     rw[Ac _ (by omega)];exact⟨⟨by omega,by omega,by rw[step];simp⟩,by first|omega|(dsimp only;omega)⟩
   ·have hn:tr w.now i.toNat=true:=by rw[Dl hi];simpa using hn
    have hf:AJ w i.toNat=false:=by unfold AJ;rw[hn];simp
    rw[hf]at step;repeat (refine And.intro rfl ?_)
    rw[Ac _ (by omega)];exact⟨⟨by omega,by omega,by rw[step];simp⟩,by first|omega|(dsimp only;omega)⟩
  ·rw[EJ,if_pos hr,Us,show w.now.length=i.toNat by omega]
 ·rw[decide_eq_false hr,EJ,if_neg hr];exact EW rfl
theorem p61 (s:St):Runs AT 61 [B9 s] [] (FB s.fd) []:=by refine Ag (c:=c61) rfl rfl ?_;rw[B9,AGj,(AIE _ _ _ _ _ _ _ _ _ _ _ _ _ _ _ _).down];rfl
theorem p63 (p:Pw)(e:Int):Runs AT 63 [Cu p,aI e] [] (Gr (Fp p e)) []:=by
 refine Ag (c:=c63) rfl rfl ?_;rw[Cu,AE7,(AFe _ _ _ _ _).down,Fp];refine Cy (λh=>?_) (λh=>?_);·rw[if_pos h,h];rfl
 ·rw[if_neg h];rfl
theorem p34 (p:Pw)(f:Fnd)(hfs:Fits p.b p.p)(hw:WFits f.wd)(hl:Br p.left):Runs AT 34 [Cu p,FB f] [] (Gr (AA p f)) []:=by
 have g:=(p50 p f hfs hw hl).up Jg;rw[cmV,Cu,Cu,FB,FB]at g;refine Ag (c:=c34) rfl rfl ?_;rw[Cu,FB,AHn,(AGT _ _ _ _ _ _ _ _ _ _ _ _ _ _ _).down];refine⟨_,_,_,_,_,_,_,_,_,_,_,_,_,_,_,g,A1 (λh=>?_) (λh=>?_)⟩;·have g2:=p63 (CommitR p f).1 (CommitR p f).2.2;rw[Cu,Gr,B9]at g2;rw[AA,if_pos h,Gr,B9];exact⟨_,_,_,_,_,_,_,_,_,_,_,_,_,_,_,_,g2,rfl⟩
 ·rw[AA,if_neg (by simpa using h)];rfl
theorem uG (s:St)(hf:Fits s.pw.b s.pw.p)(hw:WFits s.wd):Runs AT 19 [B9 s] [] (aB (decide (AW s))) []:=by
 have g1:=p61 s;have g2:=(p59 s.pw.b s.pw.p s.fd hf hw).up Jg;have g3:=uI s.wd hw.b hw.n;have g4:=(((p37 s.wd hw [s.su.m] (by simp)).up C5).up Gu).up Jg;rw[B9,FB]at g1;rw[CK,FB]at g2;rw[G1]at g3;rw[Dp,ckV]at g4;refine Ag (c:=c19) rfl rfl ?_;rw[B9,AE0,(AEh _ _ _ _ _ _ _ _ _ _ _ _ _ _ _ _).down];refine⟨_,_,_,_,_,_,_,_,_,_,_,g1,_,g2,?_⟩;by_cases h1:FitsP s.pw.b s.pw.p s.fd
 ·rw[decide_eq_true h1];refine EG (Ab (λh=>?_) (λh2=>Ab (λh=>?_) (λh3=>Ab (λh=>?_) (λh4=>Ab (λh=>?_) (λh5=>⟨_,g3,Cy (λh=>?_) (λh6=>⟨rfl,_,_,_,_,g4,?_⟩)⟩)))));·rw[decide_eq_false (λhr:AW s=>by have:=hr.2.1;omega)]
  ·rw[decide_eq_false (λhr:AW s=>by have:=hr.2.2.1;omega)]
  ·rw[decide_eq_false (λhr:AW s=>by have:=hr.2.2.2.1;omega)]
  ·rw[decide_eq_false (λhr:AW s=>by have:=hr.2.2.2.2.1;omega)]
  ·rw[decide_eq_false (λhr:AW s=>hr.2.2.2.2.2.1 h)]
  ·by_cases h7:(ChkR s.wd [s.su.m]).2=0;·rw[decide_eq_true (p:=AW s) ⟨h1,by omega,by omega,by omega,by omega,h6,h7⟩,h7];rfl
   ·rw[decide_eq_false (λhr:AW s=>h7 hr.2.2.2.2.2.2)];show AV.n (.bool ((ChkR s.wd [s.su.m]).2==0))=_;rw[show((ChkR s.wd [s.su.m]).2==0)=false by simpa using h7]
 ·rw[decide_eq_false h1,decide_eq_false (λhr:AW s=>h1 hr.1)];exact EW rfl
theorem M1 (g:Int):∀(l:List bA) (i:Nat),∀s∈EH g i l,s.size<=4000
 | [],i,s,h=>by cases h
 | b::r,i,s,h=>by
  rw[EH]at h;split at h
  ·rename_i h1;rcases List.mem_cons.1 h with rfl|h;·exact(TP h1.1).2.2
   ·exact M1 g r (i+1) s h
  ·cases h
theorem LI (b:List bA)(p:List Wr):WFits (AF b p).1.wd/\(AF b p).1.ring.length<=8/\∀s∈(AF b p).1.ring,s.size<=4000:=by
 have z:WFits fd0.wd/\fd0.ring.length<=8/\∀s∈fd0.ring,s.size<=4000:=⟨IG,by decide,λs hs=>by cases hs⟩
 unfold AF;split;·exact z
 split;·exact z
 split;·exact z
 split;·exact z
 split;·exact z
 ·rename_i hc;refine⟨D8 (IS (by simpa using hc)).1,?_,λs hs=>M1 _ _ _ s hs⟩;refine Nat.le_trans (Q3 _ _ _) ?_;rw[List.length_drop,List.length_take];omega
theorem Mn:∀ {l:List Chg} {w:Wd},WRight w->WFits (F0 GQ w l).1
 | [],w,h=>D8 h
 | c::l,w,h=>by
  rw[F0];split;·exact IG
  ·rename_i h0;exact Mn (VS h (by simpa using h0))
theorem DA (w:Wd)(l:List Chg):WFits (EY GQ w l).1:=by
 unfold EY;split;·exact IG
 ·rename_i h;exact Mn (by simpa using h)
def V7 (R:AV->Prop):Prop:=
 ∃(o f:LD)(d b i q e c:Int)(k p g:LD)(a j r h l:Int),Runs AT 14 [aI 24] [] (Dd o f d b i q e c k p g a j r h l) []/\Ae (l==0) (Ae (b==2) (∃m:Bool,Kt o f d b i q e c k p g a j r h m/\Ae m (R (.n (.bool (a==0)))) (R (.n (.bool false)))) (R (.n (.bool false)))) (R (.n (.bool false)))
def V7e:=λa=>PLift.up (by delta V7 Dd Kt Bz;exact rfl:V7 a=_)
theorem vc7 R:Vc AT c7.body (Af c7 []) [] (Aq c7 R)=V7  R:=by kernel_rfl
abbrev bC (t q:LD)(r p:Int)(s:AV->Prop):=
 ∃(c f:LD)(m i k j e o:Int)(b h a:LD)(l g d n:Int),Runs AT 30 [By t q r,aI p] [] (Bz c f m i k j e o b h a l g d n) []/\HM s c f m i k j e o b h a l g d n p
def V12 (o u:LD)(z B y v w t:Int)(p q r:LD)(x A:Int)(s:LD)(R:AV->Prop):Prop:=
 ∃(d b:LD)(a l i n g f:Int)(k m h:LD)(e j:Int)(C:LD)(c:Int),Runs AT 50 [By o u z,B8 B y v w t p q r x A s] [] (.tup [By d b a,B8 l i n g f k m h e j C,aI c]) []/\Ae (c != 0) (bC d b a c R) (cX R d b a l i n g f k m h e j)
def AEZ:=λa b c d e f g h i j k l m n o=>PLift.up (by delta V12 bC HM FY cX By B8 Bz;exact rfl:V12 a b c d e f g h i j k l m n o=_)
theorem AGt a k f h b l m j c d e n g i R:Vc AT c12.body (Af c12 [(.agg [aL a,(.o (.sl 2 k)),aI f]),(.agg [aI h,aI b,aI l,aI m,aI j,aL c,aL d,aL e,aI n,aI g,aL i])]) [] (Aq c12 R)=V12 a k f h b l m j c d e n g i R:=by kernel_rfl
def V13 (a g:LD)(p K O Z U a3:Int)(L Y M:LD)(V P u r:Int)(F D:LD)(h Q a0 J W X:Int)(T a1 N:LD)(S a2 c x:Int)(R:AV->Prop):Prop:=
 ∃s:Bool,Runs AT 51 [By a g p,By F D h] [] (aB s) []/\Ae s (∃(z d m j H:Int)(e v k:LD)(G A:Int)(b:LD),Runs AT 28 [Bz a g p K O Z U a3 L Y M V P u r] [] (B8 z d m j H e v k G A b) []/\∃(C t i l q:Int)(E w B:LD)(y o:Int)(I:LD),Runs AT 28 [Bz F D h Q a0 J W X T a1 N S a2 c x] [] (B8 C t i l q E w B y o I) []/\∃f:Bool,Runs AT 52 [B8 z d m j H e v k G A b,B8 C t i l q E w B y o I] [] (aB f) []/\Ae f (Ae (u==c) (R (.n (.bool (r==x)))) (R (.n (.bool false)))) (R (.n (.bool false)))) (R (.n (.bool false)))
def AE5:=λa b c d e f g h i j k l m n o p q r s t u v w x y z a0 a1 a2 a3 a4=>PLift.up (by delta V13 By Bz B8 FY;exact rfl:V13 a b c d e f g h i j k l m n o p q r s t u v w x y z a0 a1 a2 a3 a4=_)
theorem AJe a i p c h y r E d v f s k w q C A j l z b t u n B g m D e x R:Vc AT c13.body (Af c13 [(.agg [aL a,(.o (.sl 2 i)),aI p,aI c,aI h,aI y,aI r,aI E,aL d,aL v,aL f,aI s,aI k,aI w,aI q]),(.agg [aL C,(.o (.sl 2 A)),aI j,aI l,aI z,aI b,aI t,aI u,aL n,aL B,aL g,aI m,aI D,aI e,aI x])]) [] (Aq c13 R)=V13 a i p c h y r E d v f s k w q C A j l z b t u n B g m D e x R:=by kernel_rfl
abbrev YY (a:LD):=
 decide ((a.length:Int)<=200)
def V16 (a d:LD)(i g l m p o:Int)(j b c:LD)(e f h k:Int)(R:AV->Prop):Prop:=
 Ae (YY a) (Ae (YY d) (Ae (YY b) (R (.n (.bool (YY c)))) (R (.n (.bool false)))) (R (.n (.bool false)))) (R (.n (.bool false)))
def AHd:=λa b c d e f g h i j k l m n o p=>PLift.up (by delta V16 YY;exact rfl:V16 a b c d e f g h i j k l m n o p=_)
theorem AJi a m g d k l p n h e j b c f i R:Vc AT c16.body (Af c16 [(.agg [aL a,(.o (.sl 2 m)),aI g,aI d,aI k,aI l,aI p,aI n,aL h,aL e,aL j,aI b,aI c,aI f,aI i])]) [] (Aq c16 R)=V16 a m g d k l p n h e j b c f i R:=by kernel_rfl
def V17 (f p:LD)(A y z m C B:Int)(c a k:LD)(g d b e:Int)(R:AV->Prop):Prop:=
 ∃(v o j u r:Int)(x l i:LD)(t w:Int)(q:LD),Runs AT 28 [Bz f p A y z m C B c a k g d b e] [] (B8 v o j u r x l i t w q) []/\∃h:Bool,Runs AT 59 [ER f p,B8 v o j u r x l i t w q] [] (aB h) []/\Ae (Bool.not h) (R (.n (.bool false))) (Ae (Q5 d) (R (.n (.bool false))) (Ae (decide (e<0)) (R (.n (.bool false))) (Ae (decide (e > b)) (R (.n (.bool false))) (Ae (decide (b > 8)) (R (.n (.bool false))) (∃s:Int,PT c a s/\Ae (decide (s<1)) (R (.n (.bool false))) (bL c a k g d m R))))))
def AGp:=λa b c d e f g h i j k l m n o p=>PLift.up (by delta V17 Bz bL FA FY Hr BI PT ER Q5 B8 Bt;exact rfl:V17 a b c d e f g h i j k l m n o p=_)
theorem AHC a m g d k l p n h e j b c f i R:Vc AT c17.body (Af c17 [(.agg [aL a,(.o (.sl 2 m)),aI g,aI d,aI k,aI l,aI p,aI n,aL h,aL e,aL j,aI b,aI c,aI f,aI i])]) [] (Aq c17 R)=V17 a m g d k l p n h e j b c f i R:=by kernel_rfl
def V24 (a p:LD)(C i l m w v:Int)(A y B:LD)(x r z E:Int)(R:AV->Prop):Prop:=
 ∃(h d c g e:Int)(u k j:LD)(s t:Int)(q:LD)(b:Int),Runs AT 9 [.agg [aL a,.o (D.sl 2 [])]] [] (.tup [B8 h d c g e u k j s t q,aI b]) []/\Ae (b==0) (Ae ((p.length:Int)==0) (Ae (h==i&&(d==l&&(c==m&&(g==w&&true)))) (Ae (e==v) (rn 1/\(0:Int)<=10/\SG a/\(0:Int)<=2/\dY/\∃f:LD,Runs AT 38 [aI r,aL (List.drop (Int.toNat 2) (List.take (Int.toNat 10) a))] [] (aL f) []/\R (.n (.bool ((f.length:Int)==0)))) (R (.n (.bool false)))) (R (.n (.bool false)))) (R (.n (.bool false)))) (R (.n (.bool false)))
def AIB:=λa b c d e f g h i j k l m n o p=>PLift.up (by delta V24 dY B8 FY SG;exact rfl:V24 a b c d e f g h i j k l m n o p=_)
theorem AJu a m g d k l p n h e j b c f i R:Vc AT c24.body (Af c24 [(.agg [aL a,(.o (.sl 2 m)),aI g,aI d,aI k,aI l,aI p,aI n,aL h,aL e,aL j,aI b,aI c,aI f,aI i])]) [] (Aq c24 R)=V24 a m g d k l p n h e j b c f i R:=by kernel_rfl
def V28 (k o:LD)(m c g h j i:Int)(e d f:LD)(a b l n:Int)(R:AV->Prop):Prop:=
 cD R c g h j i e d f a b
def AFY:=λa b c d e f g h i j k l m n o p=>PLift.up (by delta V28 cD;exact rfl:V28 a b c d e f g h i j k l m n o p=_)
theorem AEj a m g d k l p n h e j b c f i R:Vc AT c28.body (Af c28 [(.agg [aL a,(.o (.sl 2 m)),aI g,aI d,aI k,aI l,aI p,aI n,aL h,aL e,aL j,aI b,aI c,aI f,aI i])]) [] (Aq c28 R)=V28 a m g d k l p n h e j b c f i R:=by kernel_rfl
def V30 (a d:LD)(b c:Int)(R:AV->Prop):Prop:=
 Ae (c==140) (R (fM a d b)) (R H9)
def AES:=λa b c d e=>PLift.up (by delta V30 fM H9;exact rfl:V30 a b c d e=_)
theorem AGn a d b c R:Vc AT c30.body (Af c30 [(.agg [aL a,(.o (.sl 2 d)),aI b]),aI c]) [] (Aq c30 R)=V30 a d b c R:=by kernel_rfl
abbrev tI (G w y:LD)(H C:Int)(B:LD)(a:AV->Prop)(k d:Int)(t:bA)(s F:LD)(v x z u A E:Int):=
 ∃(j e m:LD)(p q b:Int),Runs AT 11 [Bt G w y H C,.o (D.sl 3 B)] [] (.tup [Bt j e m p q,aI b]) []/\Ae (b != 0) (IZ a b) (∃r:Int,PT j e r/\Ae (r==0) (a (.tup [H9,aI 60])) (∃(l:bA)(h:Int),Runs AT 70 [aI k,aI d,aS t] [] (.tup [aS l,aI h]) []/\Ae (h != 0) (IZ a h) (∃(i c:LD)(f g:Int),Runs AT 71 [By s F v,aI (wI (2+d)),aS l] [] (.tup [By i c f,aI g]) []/\Ae (g != 0) (bC i c f g a) (gM a i c f k x z u A j e m p q d E))))
def V31 (a d:LD)(i z F P L V:Int)(A O C:LD)(M G p K:Int)(s:LD)(R:AV->Prop):Prop:=
 ∃(k:bA)(t:Int),Runs AT 69 [.o (D.sl 3 s)] [] (.tup [aS k,aI t]) []/\Ae (t != 0) (IZ R t) (Ae (p==8) (∃(B J H U E:Int)(N I T:LD)(Q y:Int)(S:LD),Runs AT 28 [Bz a d i z F P L V A O C M G p K] [] (B8 B J H U E N I T Q y S) []/\∃(m e:LD)(f j w q u r:Int)(h x c:LD)(n b v l g:Int),Runs AT 12 [By a d i,B8 B J H U E N I T Q y S] [] (Dd m e f j w q u r h x c n b v l g) []/\Ae (g != 0) (HM R m e f j w q u r h x c n b v l g) (tI h x c n b s R j v k m e f w q u r l)) (tI A O C M G s R z p k a d i F P L V K))
def AEs:=λa b c d e f g h i j k l m n o p q=>PLift.up (by delta V31 IN Bz IZ bC H9 HM tI gM Hr FY Dd BI PT By B8 Bt;exact rfl:V31 a b c d e f g h i j k l m n o p q=_)
theorem AGz a n g d k l q p h e j b c f i m R:Vc AT c31.body (Af c31 [(.agg [aL a,(.o (.sl 2 n)),aI g,aI d,aI k,aI l,aI q,aI p,aL h,aL e,aL j,aI b,aI c,aI f,aI i]),(.o (.sl 3 m))]) [] (Aq c31 R)=V31 a n g d k l q p h e j b c f i m R:=by kernel_rfl
def fdC (f:Fnd):Int×(Int×(Int×(Int×(Int×(List D×(List D×(List D×(Int×(Int×(List D×Unit)))))))))):=(f.su.g,f.su.r,f.su.m,f.su.z,f.slot,Bk f.wd.base,Bk f.wd.now,AK f.wd.pages,f.wd.root,f.wd.gen,AK f.ring,())
theorem zT (s:bA)(hs:(s.size:Int)<=9223372036854775807):Runs AT 10 [aS s] [] (.tup [.o (.sl 3 (NS (E2 s).1)),aI (E2 s).2]) []:=by have g:=((((p10 s hs).up Ea).up C5).up Gu).up Jg;rw[gF]at g;exact g
theorem VN (w:Wd)(hf:WFits w)(l:List Chg)(hl:Small l.length):Runs AT 11 [Dp w,.o (.sl 3 (NS l))] [] (W5 (EY GQ w l)) []:=((p11 w hf l hl).up Gu).up Jg
set_option maxRecDepth 4000 in
theorem p8 (p:Pw)(hf:Fits p.b p.p)(hl:Br p.left):Runs AT 8 [Cu p] [] (Gr (Cp p)) []:=by
 have g:=(p9 p.b p.p hf).up Jg;obtain⟨hw,hr8,hrs⟩:=LI p.b p.p;have eO:Cp p=if (AF p.b p.p).2≠0 then (st0,(AF p.b p.p).2) else if (DV (AF p.b p.p).1.wd (AF p.b p.p).1.ring).2≠0 then (st0,120) else AA p ⟨(AF p.b p.p).1.su,(AF p.b p.p).1.slot,(DV (AF p.b p.p).1.wd (AF p.b p.p).1.ring).1,(AF p.b p.p).1.ring⟩:=rfl
 obtain⟨F,e,hM⟩:∃F e,AF p.b p.p=(F,e):=⟨_,_,rfl⟩
 rw[hM]at g hw hr8 hrs eO;dsimp only at hw hr8 hrs eO;rw[CK,fdo,FB]at g;refine Ag (c:=c8) rfl rfl ?_;rw[Cu,vc8,(V8e _ _ _ _).down];refine⟨_,_,_,_,_,_,_,_,_,_,_,_,g,A1 (λh=>?_) (λh=>?_)⟩;·rw[eO,if_pos h];rfl
 ·rw[if_neg (by simpa using h)]at eO;refine⟨λi y z=>∃w:Wd,z=fdC ⟨F.su,F.slot,w,F.ring⟩/\WFits w/\0<=i/\i<=F.ring.length/\DV F.wd F.ring=DV w (F.ring.drop i.toNat),λi _ _=>(F.ring.length-i).toNat,⟨rfl,F.wd,rfl,hw,by omega,by omega,by simp⟩,?_⟩;rintro i y _ ⟨w,rfl,hwf,i0,i1,hr⟩ _;have hsl:=Al F.ring;dsimp only[fdC];refine Ab (λhlt=>?_) (λhge=>?_)
  ·have hi:i.toNat<F.ring.length:=by omega
   rw[List.drop_eq_getElem_cons hi]at hr;have hs:=hrs _ (List.getElem_mem hi);have g1:=zT F.ring[i.toNat] (by omega);have hU:=QG F.ring[i.toNat];have g2:=VN w hwf (E2 F.ring[i.toNat]).1 (by omega);have hwf2:=DA w (E2 F.ring[i.toNat]).1;rw[Dp,W5,Dp]at g2;have bad:(E2 F.ring[i.toNat]).2≠0\/(EY GQ w (E2 F.ring[i.toNat]).1).2≠0->Gr (Cp p)=Gr (st0,120):=λhb=>by rw[eO,hr,DV,if_pos hb,if_pos (by show(120:Int)≠0;decide)]
   refine⟨rfl,i0,_,A0 hi,_,rfl,_,_,g1,A1 (λhb=>?_) (λhb=>?_)⟩;·rw[bad (.inl hb)];rfl
   ·refine⟨_,_,_,_,_,_,g2,A1 (λhc=>?_) (λhc=>?_)⟩;·rw[bad (.inr hc)];rfl
    ·rw[DV,if_neg (by rintro(h|h)<;>contradiction)]at hr;repeat (refine And.intro rfl ?_)
     rw[Ac _ (by omega)];exact⟨⟨(EY GQ w (E2 F.ring[i.toNat]).1).1,rfl,hwf2,by omega,by omega,by rw[show(i+1).toNat=i.toNat+1 by omega];exact hr⟩,by first|omega|(dsimp only;omega)⟩
  ·rw[List.drop_eq_nil_of_le (by omega),DV]at hr;rw[eO,hr,if_neg (by simp)];dsimp only;have g3:=p34 p ⟨F.su,F.slot,w,F.ring⟩ hf hwf hl;rw[Cu,FB,Gr,B9]at g3;exact⟨_,_,_,_,_,_,_,_,_,_,_,_,_,_,_,_,g3,rfl⟩
theorem p14 (n:Int):Runs AT 14 [aI n] [] (Gr (Fe n)) []:=by
 have g:=(p15 n).up Jg;refine Ag (c:=c14) rfl rfl ?_;rw[AIm,(AEi _ _).down];by_cases h:24<=n/\n<=2048;·rw[if_pos h,CK]at g;have g2:=p8 ⟨BS n.toNat,[],-1⟩ (Bn (SR (by omega) (by omega))) (by show Br (-1);unfold Br;omega);rw[Cu,Gr,B9]at g2;rw[Fe,if_pos h];exact⟨_,_,_,g,CW rfl ⟨_,_,_,_,_,_,_,_,_,_,_,_,_,_,_,_,g2,rfl⟩⟩
 ·rw[if_neg h,CK]at g;rw[Fe,if_neg h];exact⟨_,_,_,g,OF (by decide) rfl⟩
theorem p21 (s:St)(hf:Fits s.pw.b s.pw.p)(hw:WFits s.wd)(hl:Br s.pw.left):Runs AT 21 [B9 s] [] (Gr (Ga s)) []:=by
 have g1:=uG s hf hw;have g2:=(p29 s.pw hf hl).up Jg;have g3:=p63 (KP s.pw).1 (KP s.pw).2;rw[B9]at g1;rw[SM,Cu,Cu]at g2;rw[Cu,Gr,B9]at g3;refine Ag (c:=c21) rfl rfl ?_;rw[B9,AFu,(AF7 _ _ _ _ _ _ _ _ _ _ _ _ _ _ _ _).down];refine⟨_,g1,?_⟩;by_cases hr:AW s
 ·rw[decide_eq_true hr,Ga,if_neg (by simpa using hr)];refine EG ⟨_,_,_,_,g2,A1 (λh=>?_) (λh=>?_)⟩;·rw[if_pos h];exact⟨_,_,_,_,_,_,_,_,_,_,_,_,_,_,_,_,g3,rfl⟩
  ·rw[if_neg (by simpa using h)];rfl
 ·rw[decide_eq_false hr,Ga,if_pos hr];exact EW rfl
theorem p18 (s:St)(hf:Fits s.pw.b s.pw.p)(hw:WFits s.wd)(hl:Br s.pw.left):Runs AT 18 [B9 s] [] (Gr (ZH s)) []:=by
 have g1:=uG s hf hw;have g2:=p61 s;have g3:=p34 s.pw s.fd hf hw hl;rw[B9]at g1;rw[B9,FB]at g2;rw[Cu,FB,Gr,B9]at g3;refine Ag (c:=c18) rfl rfl ?_;rw[B9,ADS,(AJq _ _ _ _ _ _ _ _ _ _ _ _ _ _ _ _).down];refine⟨_,g1,?_⟩;by_cases hr:AW s;·rw[decide_eq_true hr,ZH,if_neg (by simpa using hr)];exact EG ⟨_,_,_,_,_,_,_,_,_,_,_,g2,_,_,_,_,_,_,_,_,_,_,_,_,_,_,_,_,g3,rfl⟩
 ·rw[decide_eq_false hr,ZH,if_pos hr];exact EW rfl
theorem Le {p:Pw}{f:Fnd}(hl:Br p.left)(h:(CommitR p f).2.2=0):Rt (CommitR p f).1.b (CommitR p f).1.p=true/\Br (CommitR p f).1.left/\WRight (CommitR p f).2.1.wd:=by
 by_cases c1:FitsP p.b p.p f
 ·by_cases c2:(ChkR f.wd [f.su.m]).2=0
  ·by_cases c3:f.wd.gen>=1099511627776;·rw[CommitR,if_neg (by simpa using c1),if_neg (by simpa using c2),if_pos c3]at h;cases h
   ·have e:CommitR p f=match firstFree (gave f.wd f.su.m) with
      | none=>(pw0,fd0,60)
      | some block=>
       if (AL p (A2 p.b p.p f block)).2=140 then ((AL p (A2 p.b p.p f block)).1,fd0,140)
       else if (AL p (A2 p.b p.p f block)).2≠0 then (pw0,fd0,(AL p (A2 p.b p.p f block)).2)
       else ((AL p (A2 p.b p.p f block)).1,nwFd f block,0):=by
      rw[CommitR,if_neg (by simpa using c1),if_neg (by simpa using c2),if_neg c3]
      cases firstFree (gave f.wd f.su.m)<;>rfl
    rw[e]at h |-
    cases hff:firstFree (gave f.wd f.su.m) with
    | none=>rw[hff]at h;cases h
    | some block=>
     rw[hff]at h;dsimp only at h |-;split at h;·cases h
     ·rename_i h1;rw[if_neg h1];split at h;·rename_i h2;exact absurd h h2
      ·rename_i h2;rw[if_neg h2];obtain⟨f1,f2,f3,f4,f5,f6,f7,f8,f9⟩:=c1;obtain⟨_,k,P,B,ht,hm,hn⟩:=IS c2;have hnl:(nowC f block).length=p.b.length:=by rw[nowC];simp[gave];omega
       have r:=f3.2.2.2.1;have hg1:=f3.2.2.1;have h20:=f3.1.2.2.1;have hsz:=Fz (g:=f.wd.gen) (now:=nowC f block) (by omega) r (by rw[hnl];omega);obtain⟨a1,a2,a3,a4,a5,a6⟩:=SA (s:=mapP f.wd.gen (nowC f block)) f3 ht hm hn hff (by omega) (by omega);exact⟨DF _ f1,Hp _ hl,a4⟩
  ·rw[CommitR,if_neg (by simpa using c1),if_pos c2]at h;cases h
 ·rw[CommitR,if_pos c1]at h;cases h
theorem HP {p:Pw}{f:Fnd}(hl:Br p.left)(h:(AA p f).2=0):Fits (AA p f).1.pw.b (AA p f).1.pw.p/\Br (AA p f).1.pw.left/\WFits (AA p f).1.wd/\(AA p f).1.seq=0:=by
 by_cases h0:(CommitR p f).2.2=0;·obtain⟨a,b,c⟩:=Le hl h0;rw[AA,if_neg (by simpa using h0)];exact⟨Bn a,b,D8 c,rfl⟩
 ·rw[AA,if_pos h0,E9 h0]at h;exact absurd h h0
theorem xN (l:List Chg)(hl:Small l.length):Runs AT 69 [.o (.sl 3 (NS l))] [] (.tup [aS (BO l).1,aI (BO l).2]) []:=by have g:=((((p69 (l.map Qv) (by rw[List.length_map];exact hl)).up Ea).up C5).up Gu).up Jg;rw[Zs,<-ZE]at g;exact g
theorem aJ (gen no:Int)(body:bA):Runs AT 70 [aI gen,aI no,aS body] [] (.tup [aS (Cm gen no body).1,aI (Cm gen no body).2]) []:=by have g:=((((p70 gen no body).up Ea).up C5).up Gu).up Jg;rw[WT]at g;exact g
theorem Ej (gen no:Int)(body:bA):(Cm gen no body).1.size<=494:=by
 unfold Cm;split;·decide
 ·split;·decide
  ·exact Wc ⟨by omega,by omega,by omega,by omega,by omega⟩
theorem fW (s:Pw)(i:Int)(x:bA)(hf:Fits s.b s.p)(hs:x.size<=494)(hl:Br s.left):Runs AT 71 [Cu s,aI i,aS x] [] (SM (Ki s i x)) []:=(p71 s i x hf (by omega) hl).up Jg
noncomputable def nC (s:St)(l:List Chg):St×Int:=
 if (BO l).2≠0 then (st0,(BO l).2)
 else if s.seq=8 then (if (AA s.pw s.fd).2≠0 then AA s.pw s.fd else MW (AA s.pw s.fd).1 l (BO l).1)
 else MW s l (BO l).1
theorem Od (s:St)(l:List Chg):DoS s l=if ¬AW s then (st0,1) else nC s l:=rfl
set_option maxRecDepth 4000 in
theorem p27 (s:St)(hf:Fits s.pw.b s.pw.p)(hw:WFits s.wd)(hl:Br s.pw.left)(l:List Chg)(hll:Small l.length):Runs AT 27 [B9 s,.o (.sl 3 (NS l))] [] (Gr (DoS s l)) []:=by
 have g1:=uG s hf hw;have g2:=xN l hll;have g3:=p61 s;have g4:=p34 s.pw s.fd hf hw hl;rw[B9]at g1;rw[B9,FB]at g3;rw[Cu,FB,Gr,B9]at g4;refine Ag (c:=c27) rfl rfl ?_;rw[B9,AFx,(ADI _ _ _ _ _ _ _ _ _ _ _ _ _ _ _ _ _).down,Od];refine⟨_,g1,?_⟩;by_cases hr:AW s
 ·rw[decide_eq_true hr,if_neg (by simpa using hr),nC];refine EG ⟨_,_,g2,A1 (λh=>by rw[if_pos h];rfl) (λh=>?_)⟩;rw[if_neg (by simpa using h)];refine Cy (λh8=>?_) (λh8=>?_)
  ·rw[if_pos h8];refine⟨_,_,_,_,_,_,_,_,_,_,_,g3,_,_,_,_,_,_,_,_,_,_,_,_,_,_,_,_,g4,A1 (λhc=>by rw[if_pos hc];rfl) (λhc=>?_)⟩;rw[if_neg (by simpa using hc)];obtain⟨xf,xl,xw,xs⟩:=HP hl hc;generalize (AA s.pw s.fd).1=x at *;have k1:=VN x.wd xw l hll;have wf:=DA x.wd l;have k2:=uI (EY GQ x.wd l).1 wf.b wf.n;have k3:=aJ x.su.g x.seq (BO l).1;have k4:=fW x.pw (2+x.seq) (Cm x.su.g x.seq (BO l).1).1 xf (Ej _ _ _) xl;have k5:=p63 (Ki x.pw (2+x.seq) (Cm x.su.g x.seq (BO l).1).1).1 (Ki x.pw (2+x.seq) (Cm x.su.g x.seq (BO l).1).1).2;rw[Dp,W5,Dp]at k1;rw[G1]at k2;rw[SM,Cu,Cu]at k4;rw[Cu,Gr,B9]at k5;have w1:wI (2+x.seq)=2+x.seq:=Ac _ (by omega);have w2:wI (x.seq+1)=x.seq+1:=Ac _ (by omega);rw[MW];refine⟨_,_,_,_,_,_,k1,A1 (λh=>by rw[if_pos h];rfl) (λh=>?_)⟩;rw[if_neg (by simpa using h)];refine⟨_,k2,Cy (λh=>by rw[if_pos h];rfl) (λh=>?_)⟩;rw[if_neg h];refine⟨_,_,k3,A1 (λh=>by rw[if_pos h];rfl) (λh=>?_)⟩;rw[if_neg (by simpa using h),w1];refine⟨_,_,_,_,k4,A1 (λh=>?_) (λh=>?_)⟩;·rw[if_pos h];exact⟨_,_,_,_,_,_,_,_,_,_,_,_,_,_,_,_,k5,rfl⟩
   ·rw[if_neg (by simpa using h),w2];rfl
  ·rw[if_neg h8];have hseq:=hr.2.2;have k1:=VN s.wd hw l hll;have wf:=DA s.wd l;have k2:=uI (EY GQ s.wd l).1 wf.b wf.n;have k3:=aJ s.su.g s.seq (BO l).1;have k4:=fW s.pw (2+s.seq) (Cm s.su.g s.seq (BO l).1).1 hf (Ej _ _ _) hl;have k5:=p63 (Ki s.pw (2+s.seq) (Cm s.su.g s.seq (BO l).1).1).1 (Ki s.pw (2+s.seq) (Cm s.su.g s.seq (BO l).1).1).2;rw[Dp,W5,Dp]at k1;rw[G1]at k2;rw[SM,Cu,Cu]at k4;rw[Cu,Gr,B9]at k5;have w1:wI (2+s.seq)=2+s.seq:=Ac _ (by omega);have w2:wI (s.seq+1)=s.seq+1:=Ac _ (by omega);rw[MW];refine⟨_,_,_,_,_,_,k1,A1 (λh=>by rw[if_pos h];rfl) (λh=>?_)⟩;rw[if_neg (by simpa using h)];refine⟨_,k2,Cy (λh=>by rw[if_pos h];rfl) (λh=>?_)⟩;rw[if_neg h];refine⟨_,_,k3,A1 (λh=>by rw[if_pos h];rfl) (λh=>?_)⟩;rw[if_neg (by simpa using h),w1];refine⟨_,_,_,_,k4,A1 (λh=>?_) (λh=>?_)⟩;·rw[if_pos h];exact⟨_,_,_,_,_,_,_,_,_,_,_,_,_,_,_,_,k5,rfl⟩
   ·rw[if_neg (by simpa using h),w2];rfl
 ·rw[decide_eq_false hr,if_pos hr];exact EW rfl
theorem Ny {w:Wd}{k:Nat}(hf:AJ w k=true):∀n,k<n->0<CN w n
 | 0,h=>by omega
 | n+1,h=>by
  rw[CN];by_cases e:k=n;·subst e;rw[hf];simp
  ·have:=Ny hf n (by omega);omega
theorem dU {w:Wd}(h:EJ w≠0):∃j,j<w.now.length/\tr w.base j=false/\tr w.now j=false:=by
 refine Classical.byContradiction λhc=>h ?_;unfold EJ;split
 ·have:Us w=0:=H8 λk hk=>by
   unfold AJ
   cases h1:tr w.base k with
   | true=>rfl
   | false=>
    cases h2:tr w.now k with
    | true=>rfl
    | false=>exact absurd ⟨k,hk,h1,h2⟩ hc
  rw[this];rfl
 ·rfl
theorem OP {w:Wd}(ha:BJ w.base w.now){k:Nat}(hk:k<w.now.length)(h1:tr w.base k=false)(h2:tr w.now k=false):EJ w≠0:=by unfold EJ;rw[if_pos ha];have:0<Us w:=Ny (by unfold AJ;rw[h1,h2];rfl) _ hk;omega
theorem Pk {w:Wd}{m:Int}(hm:m.toNat<w.now.length)(i:Nat):tr (gave w m).now i=if i=m.toNat then false else tr w.now i:=DW hm i
theorem Wh {w:Wd}{m:Int}(hm:m.toNat<w.now.length){j:Nat}(hj:j<w.now.length)(h1:tr w.base j=false)(h2:tr w.now j=false):firstFree (gave w m)≠none:=by
 intro hn;have hl:(gave w m).now.length=w.now.length:=by simp[gave]
 have:=Hg hn j (by rw[hl];exact hj);unfold AJ at this;rw[Pk hm,show(gave w m).base=w.base from rfl,h1]at this;split at this;·cases this
 ·rw[h2]at this;cases this
theorem YD {w:Wd}{m:Int}{block:Nat}{s:bA}(hm:m.toNat<w.now.length)(htm:tr w.now m.toNat=true){j:Nat}(hj:j<w.now.length)(h2:tr w.now j=false)(hb:block<w.now.length):∃k,k<w.now.length/\tr (D2 w m block s).now k=false:=by
 have hl:(gave w m).now.length=w.now.length:=by simp[gave]
 have e:∀i,tr (D2 w m block s).now i=if i=block then true else tr (gave w m).now i:=λi=>DW (by rw[hl];exact hb) i
 by_cases h:m.toNat=block
 ·refine⟨j,hj,?_⟩;have hjm:j≠m.toNat:=λe=>by rw[e,htm]at h2;cases h2
  rw[e,if_neg (by omega),Pk hm,if_neg hjm,h2]
 ·exact⟨m.toNat,hm,by rw[e,if_neg h,Pk hm,if_pos rfl]⟩
structure Ck (b:List bA) (p:List Wr) (f:Fnd) (block h:Nat) (P:List Pr) (B:List Int):Prop where
 rg:10<=block/\block<b.length
 tree:IsTree f.wd h P B
 nm:(block:Int)∉B
 mr:f.su.m∉B
 now:nowIs f.wd.now (B++[f.su.m])
 wr:WRight (nwFd f block).wd
 tree':IsTree (nwFd f block).wd h P B
 now':nowIs (nwFd f block).wd.now (B++[(block:Int)])
 nl:(nowC f block).length=b.length
 sz:(mapP f.wd.gen (nowC f block)).size<=4013
 ok:∀x∈wrA b p f block,okC b x/\10<=x.1
 len:p.length+(wrA b p f block).length<=2048
 rt1:Rt (b1Of b p f block) [nwW (1-f.slot) (SuS (nwSu f block))]=true
 su:suOK (nwSu f block)
 free:∃k,k<b.length/\tr (nwFd f block).wd.now k=false
 eq:CommitR ⟨b,p,-1⟩ f=(⟨b2Of b p f block,[],-1⟩,nwFd f block,0)
theorem Y6 {b:List bA}{p:List Wr}{f:Fnd}(hf:FitsP b p f)(hc:(ChkR f.wd [f.su.m]).2=0)(hg:f.wd.gen+1<1099511627776)(hfr:EJ f.wd≠0)(room:p.length+b.length+1<=2048):∃block h P B,Ck b p f block h P B:=by
 obtain⟨f1,f2,f3,f4,f5,f6,f7,f8,f9⟩:=id hf;obtain⟨_,h,P,B,ht,hm,hn⟩:=IS hc;obtain⟨⟨r1,r2,r3,r4⟩,r5,r6,r7,r8,r9⟩:=id f3;obtain⟨j,hj,j1,j2⟩:=dU hfr;have hmi:f.su.m.toNat<f.wd.now.length:=by omega
 cases hff:firstFree (gave f.wd f.su.m) with
 | none=>exact absurd hff (Wh hmi hj j1 j2)
 | some block=>
  have hnl:(nowC f block).length=b.length:=by rw[nowC];simp[gave];omega
  have hsz:=Fz (g:=f.wd.gen) (now:=nowC f block) (by omega) r7 (by rw[hnl];omega);obtain⟨c1,c2,c3,c4,c5,c6⟩:=SA (s:=mapP f.wd.gen (nowC f block)) f3 ht hm hn hff (by omega) (by omega);have ok:∀x∈wrA b p f block,okC b x/\10<=x.1:=λx hx=>by
   rw[wrA]at hx;rcases List.mem_append.1 hx with hx|hx
   ·obtain⟨i,hi,rfl,h10,_⟩:=KA hx;rw[hnl]at hi;refine⟨⟨by dsimp only;omega,by dsimp only;omega,?_⟩,by dsimp only;omega⟩;dsimp only;rcases On (l:=f.wd.pages) (i:=(i:Int)) with h|h;·exact r9 _ h
    ·rw[h];decide
   ·obtain rfl:x=((block:Int),mapP f.wd.gen (nowC f block)):=by simpa using hx
    exact⟨⟨by dsimp only;omega,by dsimp only;omega,by dsimp only;omega⟩,by dsimp only;omega⟩
  have len:p.length+(wrA b p f block).length<=2048:=by have:=Uj b p f.wd.pages (nowC f block) block (nowC f block).length;rw[hnl]at this;rw[wrA,List.length_append,List.length_singleton,hnl];omega
  have l1:(b1Of b p f block).length=b.length:=by rw[b1Of,Bf]
  have rt0:Rt (b1Of b p f block) []=true:=by rw[b1Of];exact Rk (OI f1 (λx hx=>(ok x hx).1) len) _ _
  have okw:okC (b1Of b p f block) (1-f.slot,SuS (nwSu f block)):=⟨by dsimp only;omega,by dsimp only;omega,by have:=GX (nwSu f block);dsimp only;omega⟩
  have rt1:Rt (b1Of b p f block) [nwW (1-f.slot) (SuS (nwSu f block))]=true:=OI (p:=[]) (l:=[(1-f.slot,SuS (nwSu f block))]) rt0 (λx hx=>by rw[List.mem_singleton.1 hx];exact okw) (by simp);have su:suOK (nwSu f block):=by
   obtain⟨s1,s2,s3,s4,s5,s6⟩:=f2;refine⟨?_,?_,?_,?_,?_,?_,?_,?_⟩;·show 1<=f.wd.gen;omega
   ·show f.wd.gen<=_;omega
   ·show 24<=f.su.z;exact s3
   ·show f.su.z<=2048;exact s4
   ·show f.wd.root=0\/(10<=f.wd.root/\f.wd.root<f.su.z);omega
   ·show(10:Int)<=block;omega
   ·show(block:Int)<f.su.z;omega
   ·show(block:Int)≠f.wd.root;rcases ht with⟨h0,_⟩|⟨_,_,_,ht,_⟩
    ·omega
    ·intro e;exact c3 (e▸ht.root_mem)
  obtain⟨k,k1,k2⟩:=YD (s:=mapP f.wd.gen (nowC f block)) hmi f8 hj j2 c2;have hrun:=Sj (b:=b) (p:=p) (f:=f) (block:=block) (L := -1) (by omega) (λx hx=>(ok x hx).1) len f6;rw[if_pos (.inl (by decide))]at hrun;refine⟨block,h,P,B,⟨⟨c1,by omega⟩,ht,c3,hm.2.2,hn,c4,c5,c6,hnl,hsz,ok,len,rt1,su,⟨k,by omega,k2⟩,?_⟩⟩;rw[CommitR,if_neg (by simpa using hf),if_neg (by simpa using hc),if_neg (by omega),hff];dsimp only;rw[hrun,if_neg (by simp),if_neg (by simp)];rfl
theorem Ck.right {b:List bA}{p:List Wr}{f:Fnd}{block h:Nat}{P:List Pr}{B:List Int}(c:Ck b p f block h P B)(hf:FitsP b p f)(hg:f.wd.gen+1<1099511627776):AW ⟨⟨b2Of b p f block,[],-1⟩,nwSu f block,1-f.slot,(nwFd f block).wd,0,0⟩:=by
 obtain⟨f1,f2,f3,f4,f5,f6,f7,f8,f9⟩:=id hf;have lb:(b2Of b p f block).length=b.length:=by rw[b2Of,Bf,b1Of,Bf]
 have hnw:(nwFd f block).wd.now.length=b.length:=c.nl;have hrg:=c.rg;have hroot:(nwFd f block).wd.root≠(block:Int):=by
  rcases c.tree' with⟨h0,_⟩|⟨_,_,_,ht,_⟩
  ·rw[h0];omega
  ·intro e;exact c.nm (e▸ht.root_mem)
 obtain⟨k,k1,k2⟩:=c.free;refine⟨⟨?_,c.su,c.wr,?_,?_,?_,rfl,?_,hroot⟩,?_,Int.le_refl _,Int.le_refl _,by show(0:Int)<=8;decide,?_,?_⟩;·show Rt (b2Of b p f block) []=true;rw[b2Of];exact Rk c.rt1 _ _
 ·show f.su.z=((b2Of b p f block).length:Int);rw[lb];exact f4
 ·show((nwFd f block).wd.now.length:Int)=((b2Of b p f block).length:Int);rw[lb,hnw]
 ·show 1-f.slot=0\/1-f.slot=1;omega
 ·show tr (nwFd f block).wd.now ((block:Nat):Int).toNat=true;exact T0 c.now' (by omega) (by omega)
 ·show f.wd.gen+1<_;exact hg
 ·exact OP c.wr.1 (by rw[hnw];exact k1) k2 k2
 ·show(ChkR (nwFd f block).wd [(block:Int)]).2=0;rw[OB c.wr c.tree' ⟨by omega,by omega,c.nm⟩ c.now']
theorem Y0 {x y:bA}{s:Su}{i:Int}(h:Gk x y=(s,i))(hi:0<=i):(i=0/\SGet x=(s,0))\/(i=1/\SGet y=(s,0)):=by
 unfold Gk at h;split at h;·rename_i h1;obtain⟨rfl,rfl⟩:=Prod.mk.inj h;exact .inl ⟨rfl,Prod.ext rfl h1.1⟩
 ·split at h;·rename_i h1;obtain⟨rfl,rfl⟩:=Prod.mk.inj h;exact .inr ⟨rfl,Prod.ext rfl h1⟩
  ·obtain⟨_,rfl⟩:=Prod.mk.inj h;omega
theorem Yv {b:List bA}{p:List Wr}{f:Fnd}(h:AF b p=(f,0)):Rt b p=true/\p=[]/\Gk (blk b 0) (blk b 1)=(f.su,f.slot)/\0<=f.slot:=by
 unfold AF at h;split at h;·cases h
 rename_i h1;split at h;·cases h
 split at h;·cases h
 rename_i h3;split at h;·cases h
 split at h;·cases h
 obtain⟨rfl,_⟩:=Prod.mk.inj h;refine⟨?_,?_,rfl,?_⟩
 ·cases hr:Rt b p with
  | true=>rfl
  | false=>exact absurd (.inl hr) h1
 ·exact Classical.byContradiction λhc=>h1 (.inr hc)
 ·show 0<=(Gk (blk b 0) (blk b 1)).2;omega
def Wp (w:Wd):Wd:=⟨w.base,w.now,w.pages.map TrimS,w.root,w.gen⟩
theorem TM (l:List bA)(i:Int):blk (l.map TrimS) i=TrimS (blk l i):=by
 unfold blk;rw[List.getElem?_map]
 cases l[i.toNat]? with
 | none=>show Ar=TrimS Ar;decide +kernel
 | some s=>rfl
theorem Ck.dk {b:List bA}{f f0:Fnd}{block h:Nat}{P:List Pr}{B:List Int}(c:Ck b [] f block h P B)(hf:FitsP b [] f)(hm:AF b []=(f0,0))(e1:f0.su=f.su)(e2:f0.slot=f.slot)
   (hh:∀x r n,Ax (nwFd f block).wd x r=some n->Ax (Wp (nwFd f block).wd) x r=some n):Dk (b2Of b [] f block) ⟨nwSu f block,1-f.slot,Wp (nwFd f block).wd,[]⟩ h P B/\∀i:Nat,2<=i->i<10->blk (b2Of b [] f block) i=blk b i:=by
 obtain⟨f1,f2,f3,f4,f5,f6,f7,f8,f9⟩:=id hf
 obtain⟨_,_,hz,h0⟩:=Yv hm
 rw[e1,e2]at hz
 rw[e2]at h0
 have lb:(b2Of b [] f block).length=b.length:=by rw[b2Of,Bf,b1Of,Bf]
 have l1:(b1Of b [] f block).length=b.length:=by rw[b1Of,Bf]
 have hnw:(nwFd f block).wd.now.length=b.length:=c.nl
 have hrg:=c.rg
 have hn24:24<=b.length:=by have:=f3.1.2.1;omega
 have r1:=OI f1 (λx hx=>(c.ok x hx).1) c.len
 have all:∀i:Nat,i<b.length->blk (b2Of b [] f block) i=if (i:Int)=1-f.slot then SuS (nwSu f block) else BD b ([]++(wrA b [] f block).map Pp) i:=λi hi=>by
  have h1:blk (b2Of b [] f block) i=BD (b1Of b [] f block) [nwW (1-f.slot) (SuS (nwSu f block))] i:=T5 c.rt1 (by omega) (by omega);rw[h1,show [nwW (1-f.slot) (SuS (nwSu f block))]=[]++[nwW (1-f.slot) (SuS (nwSu f block))] from rfl,Dy,nwW];dsimp only;rw[Qd];by_cases e:(i:Int)=1-f.slot;·rw[if_pos e.symm,if_pos e]
  ·rw[if_neg (λh=>e h.symm),if_neg e];show blk (b1Of b [] f block) i=_;exact T5 r1 (by omega) (by omega)
 have low:∀i:Nat,i<10->BD b ([]++(wrA b [] f block).map Pp) i=blk b i:=λi hi=>by rw[NC (λx hx=>by obtain⟨y,hy,rfl⟩:=List.mem_map.1 hx;have:=(c.ok y hy).2;show y.1≠i;omega),L8 (λw hw=>by cases hw)]
 have here:blk (b2Of b [] f block) (1-f.slot)=SuS (nwSu f block):=by
  rcases f6 with e|e;·have:=all 1 (by omega);rw[if_pos (by omega)]at this;rw[e];exact this
  ·have:=all 0 (by omega);rw[if_pos (by omega)]at this;rw[e];exact this
 have there:blk (b2Of b [] f block) f.slot=blk b f.slot:=by
  rcases f6 with e|e;·have:=all 0 (by omega);rw[if_neg (by omega),low 0 (by omega)]at this;rw[e];exact this
  ·have:=all 1 (by omega);rw[if_neg (by omega),low 1 (by omega)]at this;rw[e];exact this
 have hself:SGet (blk b f.slot)=(f.su,0):=by rcases Y0 hz h0 with⟨e,h⟩|⟨e,h⟩<;>rw[e]<;>exact h
 have tmb:∀s∈b,TrimS s=s:=λs hs=>(RS ((GS f1).1 s hs)).1
 have blkT:∀i:Int,TrimS (blk b i)=blk b i:=λi=>by
  rcases On (l:=b) (i:=i) with h|h;·exact tmb _ h
  ·rw[h];decide +kernel
 have small:(blk b f.slot).size<=512:=by have:=Vj (s:=blk b f.slot) (by rw[hself]);rw[blkT]at this;rw[<-this];have:=GX (SGet (blk b f.slot)).1;omega
 obtain⟨⟨w1,w2,w3,w4⟩,w5,w6,w7,w8,w9⟩:=c.wr
 have hR:WRight (Wp (nwFd f block).wd):=by
  refine⟨⟨w1,w2,w3,w4⟩,?_,w6,w7,w8,λs hs=>?_⟩;·show((nwFd f block).wd.pages.map TrimS).length=_;rw[List.length_map];exact w5
  ·obtain⟨t,ht,rfl⟩:=List.mem_map.1 hs;have:=w9 t ht;have:=Dw t;omega
 have mt:TrimS (mapP f.wd.gen (nowC f block))=mapP f.wd.gen (nowC f block):=JI _ _ _
 have hpl:block<f.wd.pages.length:=by have:=f3.2.1;omega
 have hgs:1<=f.su.g:=f2.1
 refine⟨⟨by rw[b2Of];exact Rk c.rt1 _ _,c.su,by rw[lb];exact f4,by show 1-f.slot=0\/1-f.slot=1;omega,here,?_,?_,hR,by rw[lb];exact hnw,rfl,rfl,rfl,?_,c.nm,c.now',?_,?_⟩,λi h2 hi=>?_⟩
 ·right
  show(SGet (blk _ (1-(1-f.slot)))).1.g<f.wd.gen
  rw[show 1-(1-f.slot)=f.slot by omega,there,hself]
  dsimp only
  omega
 ·show(blk _ (1-(1-f.slot))).size<=512
  rw[show 1-(1-f.slot)=f.slot by omega,there];exact small
 ·exact FW c.tree' rfl λx hx r n h=>hh x r n h
 ·intro i h10 hi ht
  rw[lb]at hi
  have ht:tr (nowC f block) i=true:=ht
  show blk ((f.wd.pages.set block (mapP f.wd.gen (nowC f block))).map TrimS) i=_
  rw[TM,Pm hpl,all i hi,if_neg (show ¬(i:Int)=1-f.slot by omega),wrA,List.map_append,<-List.append_assoc,List.map_cons,List.map_nil,Dy,iN,c.nl]
  have nw1:(Pp ((block:Int),mapP f.wd.gen (nowC f block))).1=block:=rfl
  have nw2:(Pp ((block:Int),mapP f.wd.gen (nowC f block))).2.1=TrimS (mapP f.wd.gen (nowC f block)):=rfl
  rw[nw1,nw2]
  by_cases e:i=block
  ·rw[if_pos e,if_pos (by omega)]
  ·rw[if_neg e,if_neg (by omega)]
   by_cases hw:blk f.wd.pages i=BD b [] i
   ·rw[if_neg (λh=>h.2.2.2.2 hw),hw,L8 (λw hw=>by cases hw)]
    exact blkT _
   ·rw[if_pos ⟨hi,h10,ht,e,hw⟩]
 ·refine⟨f.wd.gen,by omega,Int.le_refl _,?_⟩
  show GetPR (blk _ (block:Int))=_
  rw[all block (by omega),if_neg (by omega),wrA,List.map_append,<-List.append_assoc,List.map_cons,List.map_nil,Dy,if_pos (show(Pp ((block:Int),mapP f.wd.gen (nowC f block))).1=block from rfl)]
  show GetPR (TrimS (mapP f.wd.gen (nowC f block)))=_
  rw[mt]
  exact Hh (KM (by omega) f3.2.2.2.1 (by rw[c.nl];have:=f3.1.2.2.1;omega))
 ·rw[all i (by omega),if_neg (by omega),low i hi]
theorem VV (s:bA):(∃e,e≠0/\GetPR s=Ey e)\/GetPR (TrimS s)=GetPR s:=by
 rcases A6 s with h|⟨k,g,b,h,hok,h1,h2,h3,hk,hg,hb,hz⟩
 ·exact .inl h
 ·right;have e:=PJ s k g b h1 h2 h3 hk hg hb hz;rw[h,<-e];exact Hh hok
theorem Wi {w:Wd}{x:Int}{r:Bool}{n:Nd}(h:Ax w x r=some n):Ax (Wp w) x r=some n:=by
 unfold Ax at h |-;have hl:(Wp w).pages.length=w.pages.length:=by simp[Wp]
 rw[show(Wp w).now=w.now from rfl,hl,show(Wp w).gen=w.gen from rfl];split at h;·cases h
 ·rename_i hc;rw[if_neg hc];have hp:pgAt (Wp w) x=TrimS (pgAt w x):=TM w.pages x;rw[hp];rcases VV (pgAt w x) with⟨e,he,h2⟩|h2;·rw[h2,Fy he]at h;cases h
  ·rw[h2];exact h
theorem cS {b c:List bA}(hl:c.length=b.length)(h:∀i:Nat,2<=i->i<10->blk c i=blk b i):(c.take 10).drop 2=(b.take 10).drop 2:=by
 refine List.ext_getElem (by simp[hl]) λi h1 h2=>?_;have hi:i+2<10/\i+2<b.length:=by simp at h2;omega
 have:=h (i+2) (by omega) hi.1;unfold blk at this;rw[Int.toNat_natCast,gI (by omega),gI (by omega)]at this;simp only[List.getElem_drop,List.getElem_take];have e:2+i=i+2:=by omega
 simp only[e];exact this
theorem Ck.opens {b:List bA}{f f0:Fnd}{block h:Nat}{P:List Pr}{B:List Int}(c:Ck b [] f block h P B)(hf:FitsP b [] f)(hm:AF b []=(f0,0))(e1:f0.su=f.su)(e2:f0.slot=f.slot)(hs:EH f.wd.gen 0 ((b.take 10).drop 2)=[])(hg2:f.wd.gen+1+1<1099511627776)(room:b.length+1<=2048):
  (Cp ⟨b2Of b [] f block,[],-1⟩).2=0/\WRight (Cp ⟨b2Of b [] f block,[],-1⟩).1.wd/\∃h' B',IsTree (Cp ⟨b2Of b [] f block,[],-1⟩).1.wd h' P B':=by
 obtain⟨d,hring⟩:=c.dk hf hm e1 e2 (λx r n h=>Wi h)
 have lb:(b2Of b [] f block).length=b.length:=by rw[b2Of,Bf,b1Of,Bf]
 have hnw:(nwFd f block).wd.now.length=b.length:=c.nl
 have hr:(Dk.mt (b2Of b [] f block) ⟨nwSu f block,1-f.slot,Wp (nwFd f block).wd,[]⟩).ring=[]:=by show EH f.wd.gen 0 (((b2Of b [] f block).take 10).drop 2)=[];rw[cS lb hring];exact hs
 have hmt:=d.mount
 have tidy:∀s∈(Dk.mt (b2Of b [] f block) ⟨nwSu f block,1-f.slot,Wp (nwFd f block).wd,[]⟩).wd.pages,TrimS s=s:=PK (λs hs=>(d.tm hs).1) _
 have dd:=d.again
 generalize hF:Dk.mt (b2Of b [] f block) ⟨nwSu f block,1-f.slot,Wp (nwFd f block).wd,[]⟩=F at *
 have hsu:F.su=nwSu f block:=by rw[<-hF];rfl
 have hnow:F.wd.now=(nwFd f block).wd.now:=by rw[<-hF];rfl
 have hop:Cp ⟨b2Of b [] f block,[],-1⟩=AA ⟨b2Of b [] f block,[],-1⟩ ⟨F.su,F.slot,F.wd,F.ring⟩:=by rw[Cp];dsimp only;rw[hmt];dsimp only;rw[if_neg (by simp),hr,DV,if_neg (by simp)]
 rw[hop]
 obtain⟨k,k1,k2⟩:=c.free
 rw[<-hnow]at k2
 have hlen:=dd.len
 have hgn:=dd.gen
 have hfr:EJ F.wd≠0:=OP dd.wr.1 (k:=k) (by omega) (by rw[dd.base];exact k2) k2
 obtain⟨block2,h2,P2,B2,c2⟩:=Y6 (f:=⟨F.su,F.slot,F.wd,F.ring⟩) (dd.fits d.rt (dd.same tidy) ⟨F.su,F.slot,F.wd,F.ring⟩ rfl rfl rfl) (dd.chk (dd.same tidy)) (by show F.wd.gen+1<_;rw[hgn,hsu];exact hg2) hfr (by rw[lb];simp;omega)
 have e1:AZ F.wd=⟨P2,B2,h2,false⟩:=Ef c2.tree
 rw[Ef dd.tree]at e1
 have eP:P=P2:=congrArg TS.ps e1
 rw[AA,c2.eq,if_neg (by simp)]
 exact⟨rfl,c2.wr,_,_,eP▸c2.tree'⟩
theorem p28 (s:St):Runs AT 28 [B9 s] [] (FB s.fd) []:=by refine Ag (c:=c28) rfl rfl ?_;rw[B9,AEj,(AFY _ _ _ _ _ _ _ _ _ _ _ _ _ _ _ _).down];rfl
theorem p30 (p:Pw)(e:Int):Runs AT 30 [Cu p,aI e] [] (B9 (Fp p e).1) []:=by
 refine Ag (c:=c30) rfl rfl ?_;rw[Cu,AGn,(AES _ _ _ _ _).down,Fp];refine Cy (λh=>?_) (λh=>?_);·rw[if_pos h];rfl
 ·rw[if_neg h];rfl
theorem p12 (p:Pw)(f:Fnd)(hfs:Fits p.b p.p)(hw:WFits f.wd)(hl:Br p.left):Runs AT 12 [Cu p,FB f] [] (Gr (AA p f)) []:=by
 have g:=(p50 p f hfs hw hl).up Jg;rw[cmV,Cu,Cu,FB,FB]at g;refine Ag (c:=c12) rfl rfl ?_;rw[Cu,FB,AGt,(AEZ _ _ _ _ _ _ _ _ _ _ _ _ _ _ _).down];refine⟨_,_,_,_,_,_,_,_,_,_,_,_,_,_,_,g,A1 (λh=>?_) (λh=>?_)⟩;·have g2:=p30 (CommitR p f).1 (CommitR p f).2.2;rw[Cu,B9]at g2;rw[AA,if_pos h,Gr,E9 h,B9];exact⟨_,_,_,_,_,_,_,_,_,_,_,_,_,_,_,g2,rfl⟩
 ·rw[AA,if_neg (by simpa using h)];rfl
theorem p13 (s:St)(hf:Fits s.pw.b s.pw.p)(hw:WFits s.wd):Runs AT 13 [B9 s,B9 s] [] (aB true) []:=by have g1:=(p51 s.pw hf).up Jg;have g2:=p28 s;have g3:=(p52 s.fd hw (by show((0:Nat):Int)<=_;decide)).up Jg;rw[Cu]at g1;rw[B9,FB]at g2;rw[FB]at g3;refine Ag (c:=c13) rfl rfl ?_;rw[B9,AJe,(AE5 _ _ _ _ _ _ _ _ _ _ _ _ _ _ _ _ _ _ _ _ _ _ _ _ _ _ _ _ _ _ _).down];refine⟨_,g1,EW ⟨_,_,_,_,_,_,_,_,_,_,_,g2,_,_,_,_,_,_,_,_,_,_,_,g2,_,g3,EW (BV rfl ?_)⟩⟩;rw[beq_self_eq_true]
def RD (s:St):Prop:=s.pw.b.length<=200/\s.pw.p.length<=200/\s.wd.now.length<=200/\s.wd.pages.length<=200
theorem p16 (s:St):∃v:Bool,Runs AT 16 [B9 s] [] (aB v) []/\(v=true->RD s):=by
 have key:∃r,Runs AT 16 [B9 s] [] r []/\∃v:Bool,r = .n (.bool v)/\(v=true->RD s):=by refine DG (R:=λr=>∃v:Bool,r = .n (.bool v)/\(v=true->RD s)) (c:=c16) rfl rfl ?_;rw[B9,AJi,(AHd _ _ _ _ _ _ _ _ _ _ _ _ _ _ _ _).down,Cg,Dq,AI,Al];refine Ab (λh1=>Ab (λh2=>Ab (λh3=>⟨_,rfl,λh=>?_⟩) (λh=>⟨false,rfl,λh=>by cases h⟩)) (λh=>⟨false,rfl,λh=>by cases h⟩)) (λh=>⟨false,rfl,λh=>by cases h⟩);have h4:=of_decide_eq_true h;exact⟨by omega,by omega,by omega,by omega⟩
 obtain⟨r,hr,v,rfl,hv⟩:=key;exact⟨v,hr,hv⟩
theorem YP (w:Wd):0<=EJ w:=by
 unfold EJ;split;·omega
 ·exact Int.le_refl _
theorem p17 (s:St)(hf:Fits s.pw.b s.pw.p)(hw:WFits s.wd):Runs AT 17 [B9 s] [] (aB (decide (AW s))) []:=by
 have g1:=p28 s;have g2:=(p59 s.pw.b s.pw.p s.fd hf hw).up Jg;have g3:=uI s.wd hw.b hw.n;have g4:=(((p37 s.wd hw [s.su.m] (by simp)).up C5).up Gu).up Jg;have nn:=YP s.wd;rw[B9,FB]at g1;rw[CK,FB]at g2;rw[G1]at g3;rw[Dp,ckV]at g4;refine Ag (c:=c17) rfl rfl ?_;rw[B9,AHC,(AGp _ _ _ _ _ _ _ _ _ _ _ _ _ _ _ _).down];refine⟨_,_,_,_,_,_,_,_,_,_,_,g1,_,g2,?_⟩;by_cases h1:FitsP s.pw.b s.pw.p s.fd
 ·rw[decide_eq_true h1];refine EG (Ab (λh=>?_) (λh2=>Ab (λh=>?_) (λh3=>Ab (λh=>?_) (λh4=>Ab (λh=>?_) (λh5=>⟨_,g3,Ab (λh=>?_) (λh6=>⟨rfl,_,_,_,_,g4,?_⟩)⟩)))));·rw[decide_eq_false (λhr:AW s=>by have:=hr.2.1;omega)]
  ·rw[decide_eq_false (λhr:AW s=>by have:=hr.2.2.1;omega)]
  ·rw[decide_eq_false (λhr:AW s=>by have:=hr.2.2.2.1;omega)]
  ·rw[decide_eq_false (λhr:AW s=>by have:=hr.2.2.2.2.1;omega)]
  ·rw[decide_eq_false (λhr:AW s=>hr.2.2.2.2.2.1 (by omega))]
  ·by_cases h7:(ChkR s.wd [s.su.m]).2=0;·rw[decide_eq_true (p:=AW s) ⟨h1,by omega,by omega,by omega,by omega,by omega,h7⟩,h7];rfl
   ·rw[decide_eq_false (λhr:AW s=>h7 hr.2.2.2.2.2.2)];show AV.n (.bool ((ChkR s.wd [s.su.m]).2==0))=_;rw[show((ChkR s.wd [s.su.m]).2==0)=false by simpa using h7]
 ·rw[decide_eq_false h1,decide_eq_false (λhr:AW s=>h1 hr.1)];exact EW rfl
set_option maxRecDepth 4000 in
theorem p31 (s:St)(hf:Fits s.pw.b s.pw.p)(hw:WFits s.wd)(hl:Br s.pw.left)(l:List Chg)(hll:Small l.length)(hr:AW s):Runs AT 31 [B9 s,.o (.sl 3 (NS l))] [] (Gr (nC s l)) []:=by
 have g2:=xN l hll;have g3:=p28 s;have g4:=p12 s.pw s.fd hf hw hl;rw[B9,FB]at g3;rw[Cu,FB,Gr,B9]at g4;refine Ag (c:=c31) rfl rfl ?_;rw[B9,AGz,(AEs _ _ _ _ _ _ _ _ _ _ _ _ _ _ _ _ _).down,nC];refine⟨_,_,g2,A1 (λh=>by rw[if_pos h];rfl) (λh=>?_)⟩;rw[if_neg (by simpa using h)];refine Cy (λh8=>?_) (λh8=>?_)
 ·rw[if_pos h8];refine⟨_,_,_,_,_,_,_,_,_,_,_,g3,_,_,_,_,_,_,_,_,_,_,_,_,_,_,_,_,g4,A1 (λhc=>by rw[if_pos hc];rfl) (λhc=>?_)⟩;rw[if_neg (by simpa using hc)];obtain⟨xf,xl,xw,xs⟩:=HP hl hc;generalize (AA s.pw s.fd).1=x at *;have k1:=VN x.wd xw l hll;have wf:=DA x.wd l;have k2:=uI (EY GQ x.wd l).1 wf.b wf.n;have k3:=aJ x.su.g x.seq (BO l).1;have k4:=fW x.pw (2+x.seq) (Cm x.su.g x.seq (BO l).1).1 xf (Ej _ _ _) xl;have k5:=p30 (Ki x.pw (2+x.seq) (Cm x.su.g x.seq (BO l).1).1).1 (Ki x.pw (2+x.seq) (Cm x.su.g x.seq (BO l).1).1).2;rw[Dp,W5,Dp]at k1;rw[G1]at k2;rw[SM,Cu,Cu]at k4;rw[Cu,B9]at k5;have w1:wI (2+x.seq)=2+x.seq:=Ac _ (by omega);have w2:wI (x.seq+1)=x.seq+1:=Ac _ (by omega);rw[MW];refine⟨_,_,_,_,_,_,k1,A1 (λh=>by rw[if_pos h];rfl) (λh=>?_)⟩;rw[if_neg (by simpa using h)];refine⟨_,k2,Cy (λh=>by rw[if_pos h];rfl) (λh=>?_)⟩;rw[if_neg h];refine⟨_,_,k3,A1 (λh=>by rw[if_pos h];rfl) (λh=>?_)⟩;rw[if_neg (by simpa using h),w1];refine⟨_,_,_,_,k4,A1 (λh=>?_) (λh=>?_)⟩;·rw[if_pos h,Gr,E9 h];exact⟨_,_,_,_,_,_,_,_,_,_,_,_,_,_,_,k5,rfl⟩
  ·rw[if_neg (by simpa using h),w2];rfl
 ·rw[if_neg h8];have hseq:=hr.2.2;have k1:=VN s.wd hw l hll;have wf:=DA s.wd l;have k2:=uI (EY GQ s.wd l).1 wf.b wf.n;have k3:=aJ s.su.g s.seq (BO l).1;have k4:=fW s.pw (2+s.seq) (Cm s.su.g s.seq (BO l).1).1 hf (Ej _ _ _) hl;have k5:=p30 (Ki s.pw (2+s.seq) (Cm s.su.g s.seq (BO l).1).1).1 (Ki s.pw (2+s.seq) (Cm s.su.g s.seq (BO l).1).1).2;rw[Dp,W5,Dp]at k1;rw[G1]at k2;rw[SM,Cu,Cu]at k4;rw[Cu,B9]at k5;have w1:wI (2+s.seq)=2+s.seq:=Ac _ (by omega);have w2:wI (s.seq+1)=s.seq+1:=Ac _ (by omega);rw[MW];refine⟨_,_,_,_,_,_,k1,A1 (λh=>by rw[if_pos h];rfl) (λh=>?_)⟩;rw[if_neg (by simpa using h)];refine⟨_,k2,Cy (λh=>by rw[if_pos h];rfl) (λh=>?_)⟩;rw[if_neg h];refine⟨_,_,k3,A1 (λh=>by rw[if_pos h];rfl) (λh=>?_)⟩;rw[if_neg (by simpa using h),w1];refine⟨_,_,_,_,k4,A1 (λh=>?_) (λh=>?_)⟩;·rw[if_pos h,Gr,E9 h];exact⟨_,_,_,_,_,_,_,_,_,_,_,_,_,_,_,k5,rfl⟩
  ·rw[if_neg (by simpa using h),w2];rfl
theorem UC {n:Nat}(h:24<=n)(h2:n<=1000):(Fe n).2=0/\AW (Fe n).1/\(Fe n).1.su.g=2/\(Fe n).1.wd.root=0:=by
 have d:=Sl h (by omega);have dd:=d.again;have tidy:∀s∈(Dk.mt (BS n) (Fb n)).wd.pages,TrimS s=s:=PK (λs hs=>(d.tm hs).1) _;have hmt:=d.mount;have lf:=Mh n;have hr:(Dk.mt (BS n) (Fb n)).ring=[]:=(XV h h2 0).2;have m:=dd.same tidy;have eN:Fe n=AA ⟨BS n,[],-1⟩ ⟨(Dk.mt (BS n) (Fb n)).su,(Dk.mt (BS n) (Fb n)).slot,(Dk.mt (BS n) (Fb n)).wd,(Dk.mt (BS n) (Fb n)).ring⟩:=by rw[Fe,if_pos ⟨by omega,by omega⟩,Int.toNat_natCast,Cp];dsimp only;rw[hmt];dsimp only;rw[if_neg (by simp),hr,DV,if_neg (by simp)]
 have hfree:EJ (Dk.mt (BS n) (Fb n)).wd≠0:=by
  have e:(Dk.mt (BS n) (Fb n)).wd.now=Gf n:=rfl;have t:tr (Gf n) 11=false:=by rw[N8 (by omega)];decide
  exact OP dd.wr.1 (k:=11) (by rw[e,Ds];omega) t t
 have hg1:(Dk.mt (BS n) (Fb n)).wd.gen=2:=by rw[m.gen];rfl
 have hr0:(Dk.mt (BS n) (Fb n)).wd.root=0:=rfl;have hf:=dd.fits d.rt m ⟨(Dk.mt (BS n) (Fb n)).su,(Dk.mt (BS n) (Fb n)).slot,(Dk.mt (BS n) (Fb n)).wd,(Dk.mt (BS n) (Fb n)).ring⟩ rfl rfl rfl;obtain⟨block,k,P,B,c⟩:=Y6 hf (dd.chk m) (by show(Dk.mt (BS n) (Fb n)).wd.gen+1<_;rw[hg1];decide) hfree (by rw[lf];simp;omega);rw[eN,AA,c.eq,if_neg (by simp)];exact⟨rfl,c.right hf (by show(Dk.mt (BS n) (Fb n)).wd.gen+1<_;rw[hg1];decide),hg1,hr0⟩
theorem p7:Runs AT 7 [] [] (aB true) []:=by
 obtain⟨h0,rs,hg,hr⟩:=UC (n:=24) (by omega) (by omega);have e24:((24:Nat):Int)=24:=rfl;rw[e24]at h0 rs hg hr;have g1:=p14 24;obtain⟨X,hX⟩:∃X,Fe 24=X:=⟨_,rfl⟩
 rw[hX]at h0 rs hg hr g1;have g2:=uG X.1 (Bn rs.1.1) (D8 rs.1.2.2.1);rw[decide_eq_true rs,B9]at g2;rw[Gr,B9,h0]at g1;refine Ag (c:=c7) rfl rfl ?_;rw[vc7,(V7e _).down];refine⟨_,_,_,_,_,_,_,_,_,_,_,_,_,_,_,_,g1,BV rfl (BV hg ⟨_,g2,EW ?_⟩)⟩;rw[hr];rfl
end Go.Proofs.YtjmpnbbeplgchabGreatDoor.M
