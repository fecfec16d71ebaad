import Derived.Test.YtjmpnbbeplgchabGreatDoorR6PW
import Derived.Test.YtjmpnbbeplgchabGreatDoorR6EW
import Derived.Test.YtjmpnbbeplgchabGreatDoorR6FunB
import Derived.Test.YtjmpnbbeplgchabGreatDoorR6LV
import Derived.Test.YtjmpnbbeplgchabGreatDoorR6Eg
import Derived.Test.YtjmpnbbeplgchabGreatDoorR6Blk
namespace Go.Proofs.YtjmpnbbeplgchabGreatDoor.M
set_option linter.unusedVariables false
set_option linter.unusedSimpArgs false
open Go Go.Mir
def V57 (c:LD)(R:AV->Prop):Prop:=
 (8:Int)≠0/\(0:Int)<=wI (Int.tdiv (wI ((c.length:Int)+7)) 8)/\((Int.toNat (wI (Int.tdiv (wI ((c.length:Int)+7)) 8))*1):Nat)<=140737488355328/\∃(d:Int->Nat×LD->Prop)(e:Int->Nat×LD->Nat),(rh [(5700104,.row false true 0 5 1 (List.replicate (Int.toNat (wI (Int.tdiv (wI ((c.length:Int)+7)) 8))) (D.int .u8 0)))]/\d 0 (0,List.replicate (Int.toNat (wI (Int.tdiv (wI ((c.length:Int)+7)) 8))) (D.int .u8 0)))/\∀(b:Int)(a:Nat×LD),d b a->∀j:Nat->AV,Ae (Bw b c) (rn 1/\(0:Int)<=b/\∃i:D,AX c b i/\∃h:Bool,Dt i h/\Ae h ((8:Int)≠0/\OC a/\(0:Int)<=wI (Int.tdiv b 8)/\((wI (Int.tdiv b 8)):Int)<((Prod.snd a).length:Int)/\((0:Nat)=Prod.fst a/\rn 1)/\∃g:D,((Prod.snd a)[Int.toNat (wI (Int.tdiv b 8))]?=some g)/\∃f:Int,((D.cells g)[0]?=some (D.int .u8 f))/\(8:Int)≠0/\(0:Int)<=Int.tmod b 8/\OC a/\(0:Int)<=wI (Int.tdiv b 8)/\((wI (Int.tdiv b 8)):Int)<((Prod.snd a).length:Int)/\QF a/\((Int.toNat (wI (Int.tdiv b 8))):Nat)<List.length (Prod.snd a)/\rq (.row 5700104 0)/\rq (aL c)/\rq (aI (c.length:Int))/\rh [(5700104,.row false true (Prod.fst a) 5 1 (List.set (Prod.snd a) (Int.toNat (wI (Int.tdiv b 8))) (D.int .u8 (IntKind.wrap .u8 (((BitVec.toNat (HOr.hOr (BitVec.ofInt (Go.IntKind.bits .u8) f) (BitVec.ofInt (Go.IntKind.bits .u8) (IntKind.wrap .u8 (1*(2 ^ (Min.min (Int.toNat (Int.tmod b 8)) (Go.IntKind.bits .u8)))))))):Nat):Int)))))]/\d (wI (b+1)) (Prod.fst a,List.set (Prod.snd a) (Int.toNat (wI (Int.tdiv b 8))) (D.int .u8 (IntKind.wrap .u8 (((BitVec.toNat (HOr.hOr (BitVec.ofInt (Go.IntKind.bits .u8) f) (BitVec.ofInt (Go.IntKind.bits .u8) (IntKind.wrap .u8 (1*(2 ^ (Min.min (Int.toNat (Int.tmod b 8)) (Go.IntKind.bits .u8)))))))):Nat):Int))))/\((e (wI (b+1)) (Prod.fst a,List.set (Prod.snd a) (Int.toNat (wI (Int.tdiv b 8))) (D.int .u8 (IntKind.wrap .u8 (((BitVec.toNat (HOr.hOr (BitVec.ofInt (Go.IntKind.bits .u8) f) (BitVec.ofInt (Go.IntKind.bits .u8) (IntKind.wrap .u8 (1*(2 ^ (Min.min (Int.toNat (Int.tmod b 8)) (Go.IntKind.bits .u8)))))))):Nat):Int))))):Nat)<e b a) (rq (.row 5700104 0)/\rq (aL c)/\rq (aI (c.length:Int))/\rh [(5700104,.row false true (Prod.fst a) 5 1 (Prod.snd a))]/\d (wI (b+1)) (Prod.fst a,Prod.snd a)/\((e (wI (b+1)) (Prod.fst a,Prod.snd a)):Nat)<e b a)) (((Prod.fst a):Nat)=0/\uJ a/\uU a/\R (.n (.str (tW a))))
def AJv:=λa b=>PLift.up (by delta V57 Dt AX uJ OC Bw uU QF tW;exact rfl:V57 a b=_)
theorem AGd a R:Vc A8 c57.body (Af c57 [aL a]) [] (Aq c57 R)=V57 a R:=by kernel_rfl
abbrev Q6 (a:Int):=
 List.replicate (Int.toNat a) (D.bool false)
def V78 (d:bA)(c:Int)(R:AV->Prop):Prop:=
 Ae (decide (c<0)) (U3 R) (Ae (decide (c > 2048)) (U3 R) ((8:Int)≠0/\Ae (decide ((((ByteArray.size d):Nat):Int)<wI (Int.tdiv (wI (c+7)) 8))) (R (.tup [aL [],aI 3])) ((0:Int)<=c/\uR c/\rn 0/\∃(f:Int->Nat×LD->Prop)(h:Int->Nat×LD->Nat),(rh [(7800501,.row false true 0 4 1 (Q6 c))]/\f 0 (0,Q6 c))/\∀(a:Int)(b:Nat×LD),f a b->∀i:Nat->AV,Ae (decide (a<((Q6 c).length:Int))) ((8:Int)≠0/\(0:Int)<=wI (Int.tdiv a 8)/\∃e:UInt8,((GetElem?.getElem? (Ta d) (Int.toNat (wI (Int.tdiv a 8)))):Option UInt8)=some e/\(8:Int)≠0/\(0:Int)<=Int.tmod a 8/\OC b/\(0:Int)<=a/\MS a b/\QF b/\RC a b/\rq (aS d)/\rq (.row 7800501 0)/\rq (aI ((Q6 c).length:Int))/\rh [(7800501,.row false true (Prod.fst b) 4 1 (List.set (Prod.snd b) (Int.toNat a) (D.bool (IntKind.wrap .u8 (((BitVec.toNat (HAnd.hAnd (BitVec.ofInt (Go.IntKind.bits .u8) (Int.fdiv (((UInt8.toNat e):Nat):Int) (2 ^ (Min.min (Int.toNat (Int.tmod a 8)) (Go.IntKind.bits .u8))))) (BitVec.ofInt (Go.IntKind.bits .u8) 1))):Nat):Int)==1))))]/\f (wI (a+1)) (Prod.fst b,List.set (Prod.snd b) (Int.toNat a) (D.bool (IntKind.wrap .u8 (((BitVec.toNat (HAnd.hAnd (BitVec.ofInt (Go.IntKind.bits .u8) (Int.fdiv (((UInt8.toNat e):Nat):Int) (2 ^ (Min.min (Int.toNat (Int.tmod a 8)) (Go.IntKind.bits .u8))))) (BitVec.ofInt (Go.IntKind.bits .u8) 1))):Nat):Int)==1)))/\((h (wI (a+1)) (Prod.fst b,List.set (Prod.snd b) (Int.toNat a) (D.bool (IntKind.wrap .u8 (((BitVec.toNat (HAnd.hAnd (BitVec.ofInt (Go.IntKind.bits .u8) (Int.fdiv (((UInt8.toNat e):Nat):Int) (2 ^ (Min.min (Int.toNat (Int.tmod a 8)) (Go.IntKind.bits .u8))))) (BitVec.ofInt (Go.IntKind.bits .u8) 1))):Nat):Int)==1)))):Nat)<h a b) (Prod.fst b=0/\∃g:bA,Runs A8 57 [aL (Prod.snd b)] [] (aS g) []/\Ae (Bool.not (KE g d)) (R (.tup [aL [],aI 4])) (Prod.fst b=0/\R (.tup [aL (Prod.snd b),aI 0]))))))
def AEc:=λa b c=>PLift.up (by delta V78 uR RC U3 OC MS KE Ta QF Q6;exact rfl:V78 a b c=_)
theorem AGa a b R:Vc A8 c78.body (Af c78 [aS a,aI b]) [] (Aq c78 R)=V78 a b R:=by kernel_rfl
def V53 (c:Int)(R:AV->Prop):Prop:=
 Ae (decide (c<24)) (Ya R) (Ae (decide (c > 2048)) (Ya R) ((0:Int)<=c/\uR c/\∃(e:Int->Nat×LD->Prop)(g:Int->Nat×LD->Nat),(rh [hB 5300000 fK,(5300301,.row false true 0 4 1 (Q6 c))]/\e 0 (0,Q6 c))/\∀(b:Int)(a:Nat×LD),e b a->∀h:Nat->AV,Ae (decide (b<10)) (OC a/\(0:Int)<=b/\MS b a/\QF a/\RC b a/\rq (.ptr 5300000 0)/\rq (.row 5300301 0)/\rh [hB 5300000 fK,(5300301,.row false true (Prod.fst a) 4 1 (QT a b))]/\e (wI (b+1)) (Prod.fst a,QT a b)/\((g (wI (b+1)) (Prod.fst a,QT a b)):Nat)<g b a) (Prod.fst a=0/\∃(d:Nat)(f:LD),Runs A8 100 [aL (Prod.snd a)] [] (.row 10000001 d) [hR 10000001 d 4 1 f]/\Prod.fst a=0/\d=d/\R (.tup [.agg [aL (Prod.snd a),aL f],aI 0]))))
def AGl:=λa b=>PLift.up (by delta V53 uR RC QT fK RI OC MS QF Q6 Ya;exact rfl:V53 a b=_)
theorem AH1 a R:Vc A8 c53.body (Af c53 [aI a]) [] (Aq c53 R)=V53 a R:=by kernel_rfl
def qZ (b d:LD)(R:AV->Prop):Prop:=
 Ae (H5 b d) (R (.n (.bool false))) (∃(c:Int->Prop)(i:Int->Nat),(rh []/\c 0)/\∀a:Int,c a->∀j:Nat->AV,Ae (Bw a b) (rn 1/\(0:Int)<=a/\∃h:D,AX b a h/\∃g:Bool,Dt h g/\rn 1/\(0:Int)<=a/\∃f:D,AX d a f/\∃e:Bool,Dt f e/\Ae (Bool.not (g==e)) (R (.n (.bool false))) (eX b d c a i)) (R (.n (.bool true))))
def zX:=λa b c=>PLift.up (by delta qZ Dt AX eX H5 Bw;exact rfl:qZ a b c=_)
theorem ACh a b R:Vc A8 c173.body (Af c173 [aL a,aL b]) [] (Aq c173 R)=qZ a b R:=by kernel_rfl
def AB3 (c e f d:LD)(R:AV->Prop):Prop:=
 ∃b:Bool,Runs A8 173 [aL c,aL f] [] (aB b) []/\Ae b (∃a:Bool,Runs A8 173 [aL e,aL d] [] (aB a) []/\R (.n (.bool a))) (R (.n (.bool false)))
theorem ADz a d c b R:Vc A8 c138.body (Af c138 [(.agg [aL a,aL d]),(.agg [aL c,aL b])]) [] (Aq c138 R)=AB3 a d c b R:=by kernel_rfl
def V98 (d i b:LD)(e f:Int)(l k c:LD)(j g:Int)(R:AV->Prop):Prop:=
 Ae (e != j) (R (.n (.bool false))) (Ae (f != g) (R (.n (.bool false))) (Ae (H5 b c) (R (.n (.bool false))) (∃r:Bool,Runs A8 138 [.agg [aL d,aL i],.agg [aL l,aL k]] [] (aB r) []/\Ae (Bool.not r) (R (.n (.bool false))) (∃(h:Int->Prop)(o:Int->Nat),(rh [hB 9800000 (BI d i b e f),hB 9800001 (BI l k c j g)]/\h 0)/\∀a:Int,h a->∀t:Nat->AV,Ae (Bw a b) (rn 1/\(0:Int)<=a/\∃s:D,AX b a s/\∃p:bA,B7 s p/\rn 1/\(0:Int)<=a/\∃m:D,AX c a m/\∃q:bA,B7 m q/\Ae (Bool.not (KE p q)) (R (.n (.bool false))) (rq (.ptr 9800000 0)/\rq (.ptr 9800001 0)/\E5 b/\rh [hB 9800000 (BI d i b e f),hB 9800001 (BI l k c j g)]/\h (wI (a+1))/\((o (wI (a+1))):Nat)<o a)) (R (.n (.bool true)))))))
def AIT:=λa b c d e f g h i j k=>PLift.up (by delta V98 AX H5 BI Bw KE E5 B7;exact rfl:V98 a b c d e f g h i j k=_)
theorem AJf a h d c f e b i j g R:Vc A8 c98.body (Af c98 [(.agg [aL a,aL h,aL d,aI c,aI f]),(.agg [aL e,aL b,aL i,aI j,aI g])]) [] (Aq c98 R)=V98 a h d c f e b i j g R:=by kernel_rfl
noncomputable instance (a b:Wd):Decidable (a=b):=Classical.propDecidable _
theorem xD (a b:List Bool)(ha:Small a.length):Runs A8 173 [aL (Bk a),aL (Bk b)] [] (aB (decide (a=b))) []:=by
 refine Ag (c:=c173) rfl rfl ?_;rw[ACh,(zX _ _ _).down,AI,AI];refine Aa (λh=>?_) (λh=>?_);·rw[decide_eq_false];rintro rfl;simp at h
 have hl:a.length=b.length:=by
  have:(a.length:Int)=b.length:=by simpa using h
  omega
 refine⟨λi=>0<=i/\i<=a.length/\∀j:Nat,(j:Int)<i->a[j]?=b[j]?,λi=>(a.length-i).toNat,⟨rfl,by omega,by omega,λj hj=>by omega⟩,?_⟩;rintro i ⟨h0,h1,hok⟩ _;refine Ab (λhlt=>?_) (λhge=>?_)
 ·have hi:i.toNat<a.length:=by omega
  have hj:i.toNat<b.length:=by omega
  refine⟨rfl,h0,_,BU hi,_,rfl,rfl,h0,_,BU hj,_,rfl,?_⟩;refine Aa (λhx=>?_) (λhx=>?_);·rw[decide_eq_false];rintro rfl;simp at hx
  ·have hx:a[i.toNat]=b[i.toNat]:=by simpa using hx
   repeat (refine And.intro rfl ?_)
   rw[Ac _ (by omega)];refine⟨⟨by omega,by omega,λj hji=>?_⟩,by first|omega|(dsimp only;omega)⟩;by_cases e:(j:Int)<i;·exact hok j e
   ·obtain rfl:j=i.toNat:=by omega
    rw[gI hi,gI hj,hx]
 ·rw[decide_eq_true];refine List.ext_getElem? λj=>?_;by_cases hj:j<a.length;·exact hok j (by omega)
  ·rw[List.getElem?_eq_none (by omega),List.getElem?_eq_none (by omega)]
theorem AG7 (a b c d:List Bool)(ha:Small a.length)(hb:Small b.length):Runs A8 138 [G1 a b,G1 c d] [] (.n (.bool (decide (a=c/\b=d)))) []:=by have g1:=xD a c ha;have g2:=xD b d hb;refine Ag (c:=c138) rfl rfl ?_;rw[G1,G1,ADz,AB3];refine⟨_,g1,Ab (λh=>⟨_,g2,?_⟩) (λh=>by rw[decide_eq_false (λhh=>h hh.1)])⟩;congr 2;rw[decide_eq_decide];exact⟨λh2=>⟨h,h2⟩,λh2=>h2.2⟩
theorem nP {a b:Wd}(h1:a.base=b.base)(h2:a.now=b.now)(h3:a.pages=b.pages)(h4:a.root=b.root)(h5:a.gen=b.gen):a=b:=by cases a;cases b;simp_all
theorem p98 (a b:Wd)(hf:WFits a):Runs A8 98 [Dp a,Dp b] [] (aB (decide (a=b))) []:=by
 have g1:=AG7 a.base a.now b.base b.now hf.b hf.n;have no:a≠b->AV.n (D.bool false) = .n (.bool (decide (a=b))):=λh=>by rw[decide_eq_false h]
 refine Ag (c:=c98) rfl rfl ?_;rw[Dp,Dp,AJf,(AIT _ _ _ _ _ _ _ _ _ _ _).down,Al,Al];refine Aa (λh=>no (by rintro rfl;simp at h)) (λh1=>Aa (λh=>no (by rintro rfl;simp at h)) (λh2=>Aa (λh=>no (by rintro rfl;simp at h)) (λh3=>⟨_,g1,?_⟩)));have h1:a.root=b.root:=by simpa using h1
 have h2:a.gen=b.gen:=by simpa using h2
 have hl:a.pages.length=b.pages.length:=by
  have:(a.pages.length:Int)=b.pages.length:=by simpa using h3
  omega
 by_cases hc:a.base=b.base/\a.now=b.now
 ·rw[decide_eq_true hc];refine Aa (λh=>by cases h) (λ_=>?_);refine⟨λi=>0<=i/\i<=a.pages.length/\∀j:Nat,(j:Int)<i->a.pages[j]?=b.pages[j]?,λi=>(a.pages.length-i).toNat,⟨rfl,by omega,by omega,λj hj=>by omega⟩,?_⟩;rintro i ⟨h0,h1',hok⟩ _;have hs:=hf.p;refine Ab (λhlt=>?_) (λhge=>?_)
  ·have hi:i.toNat<a.pages.length:=by omega
   have hj:i.toNat<b.pages.length:=by omega
   refine⟨rfl,h0,_,A0 hi,_,rfl,rfl,h0,_,A0 hj,_,rfl,GL (λhx=>?_) (λhx=>?_)⟩;·refine no λe=>hx ?_;subst e;rfl
   ·repeat (refine And.intro rfl ?_)
    rw[Ac _ (by omega)];refine⟨⟨by omega,by omega,λj hji=>?_⟩,by first|omega|(dsimp only;omega)⟩;by_cases e:(j:Int)<i;·exact hok j e
    ·obtain rfl:j=i.toNat:=by omega
     rw[gI hi,gI hj,hx]
  ·rw[decide_eq_true];refine nP hc.1 hc.2 (List.ext_getElem? λj=>?_) h1 h2;by_cases hj:j<a.pages.length;·exact hok j (by omega)
   ·rw[List.getElem?_eq_none (by omega),List.getElem?_eq_none (by omega)]
 ·rw[decide_eq_false hc];exact Aa (λ_=>no λe=>hc ⟨by rw[e],by rw[e]⟩) (λh=>by cases h)
theorem QX (w:Wd):∀n,CN w n<=n
 | 0=>Nat.le_refl 0
 | n+1=>by have:=QX w n;unfold CN;split<;>omega
theorem tq (w:Wd)(hf:WFits w)(hn:w.now.length<=2048):∃va vb,Runs A8 22 [Dp w] [] (.ptr 2200101 0) (hT (AZ w) va vb):=by obtain⟨va,vb,g⟩:=p22 w hf hn;exact⟨va,vb,(g.up C5).up Gu⟩
theorem IG:WFits wd0:=⟨by decide,by decide,by decide,λs hs=>by cases hs⟩
theorem AEX (a b:List Pr)(e:a=b)(ha:Small a.length):Runs A8 25 [.o (.sl 2 (Jn a)),.o (.sl 2 (Jn b))] [] (aB true) []:=by subst e;have g:=((p25 a a ha ha).up C5).up Gu;rw[decide_eq_true rfl]at g;exact g
theorem EW {A B:Prop}(h:A):Ae true A B:=h
theorem EG {A B:Prop}(h:B):Ae false A B:=h
theorem Qh {w:Wd}{h:Nat}{P:List Pr}{B:List Int}(hr:WRight w)(ht:IsTree w h P B):P.length<=100000/\B.length<=2048:=by have i:=U9 (Ig hr);rw[Ef ht]at i;have h1:=i.ps;have h2:=i.len;dsimp only at h1 h2;exact⟨by omega,by omega⟩
end Go.Proofs.YtjmpnbbeplgchabGreatDoor.M
