import Derived.Test.YtegndijbpiccgaaGreatDoorR5PW
import Derived.Test.YtegndijbpiccgaaGreatDoorR5Blk
namespace Go.Proofs.YtegndijbpiccgaaGreatDoor.M
set_option linter.unusedVariables false
set_option linter.unusedSimpArgs false
open Go Go.Mir
def V37 (c:LD)(R:AV->Prop):Prop:=
 (8:Int)≠0/\(0:Int)<=w6 (Int.tdiv (w6 ((c.length:Int)+7)) 8)/\((Int.toNat (w6 (Int.tdiv (w6 ((c.length:Int)+7)) 8))*1):Nat)<=140737488355328/\∃(e:Int->Nat×LD->Prop)(f:Int->Nat×LD->Nat),(rh [(3700104,.row false true 0 5 1 (List.replicate (Int.toNat (w6 (Int.tdiv (w6 ((c.length:Int)+7)) 8))) (D.int .u8 0)))]/\e 0 (0,List.replicate (Int.toNat (w6 (Int.tdiv (w6 ((c.length:Int)+7)) 8))) (D.int .u8 0)))/\∀(b:Int)(a:Nat×LD),e b a->∀j:Nat->AV,Ae (BK b c) (rn 1/\(0:Int)<=b/\∃i:D,AW c b i/\∃h:Bool,Dt i h/\Ae h ((8:Int)≠0/\Oe a/\(0:Int)<=w6 (Int.tdiv b 8)/\((w6 (Int.tdiv b 8)):Int)<((Prod.snd a).length:Int)/\((0:Nat)=Prod.fst a/\rn 1)/\∃g:D,((Prod.snd a)[Int.toNat (w6 (Int.tdiv b 8))]?=some g)/\∃d:Int,((D.cells g)[0]?=some (D.int .u8 d))/\(8:Int)≠0/\(0:Int)<=Int.tmod b 8/\Oe a/\(0:Int)<=w6 (Int.tdiv b 8)/\((w6 (Int.tdiv b 8)):Int)<((Prod.snd a).length:Int)/\Rj a/\((Int.toNat (w6 (Int.tdiv b 8))):Nat)<List.length (Prod.snd a)/\rq (.row 3700104 0)/\rq (aL c)/\rq (aI (c.length:Int))/\rh [(3700104,.row false true (Prod.fst a) 5 1 (List.set (Prod.snd a) (Int.toNat (w6 (Int.tdiv b 8))) (D.int .u8 (IntKind.wrap .u8 (((BitVec.toNat (HOr.hOr (BitVec.ofInt (Go.IntKind.bits .u8) d) (BitVec.ofInt (Go.IntKind.bits .u8) (IntKind.wrap .u8 (1*(2 ^ (Min.min (Int.toNat (Int.tmod b 8)) (Go.IntKind.bits .u8)))))))):Nat):Int)))))]/\e (w6 (b+1)) (Prod.fst a,List.set (Prod.snd a) (Int.toNat (w6 (Int.tdiv b 8))) (D.int .u8 (IntKind.wrap .u8 (((BitVec.toNat (HOr.hOr (BitVec.ofInt (Go.IntKind.bits .u8) d) (BitVec.ofInt (Go.IntKind.bits .u8) (IntKind.wrap .u8 (1*(2 ^ (Min.min (Int.toNat (Int.tmod b 8)) (Go.IntKind.bits .u8)))))))):Nat):Int))))/\((f (w6 (b+1)) (Prod.fst a,List.set (Prod.snd a) (Int.toNat (w6 (Int.tdiv b 8))) (D.int .u8 (IntKind.wrap .u8 (((BitVec.toNat (HOr.hOr (BitVec.ofInt (Go.IntKind.bits .u8) d) (BitVec.ofInt (Go.IntKind.bits .u8) (IntKind.wrap .u8 (1*(2 ^ (Min.min (Int.toNat (Int.tmod b 8)) (Go.IntKind.bits .u8)))))))):Nat):Int))))):Nat)<f b a) (rq (.row 3700104 0)/\rq (aL c)/\rq (aI (c.length:Int))/\rh [(3700104,.row false true (Prod.fst a) 5 1 (Prod.snd a))]/\e (w6 (b+1)) (Prod.fst a,Prod.snd a)/\((f (w6 (b+1)) (Prod.fst a,Prod.snd a)):Nat)<f b a)) (((Prod.fst a):Nat)=0/\sU a/\sD a/\R (.n (.str (sR a))))
def ADd:=λa b=>PLift.up (by delta V37 Oe sU Dt Rj AW sD sR BK;exact rfl:V37 a b=_)
theorem AEe a R:Vc A5 c37.body (Af c37 [aL a]) [] (Av c37 R)=V37 a R:=by kernel_rfl
abbrev Q5 (a:Int):=
 List.replicate (Int.toNat a) (D.bool false)
def V91 (d:bA)(c:Int)(R:AV->Prop):Prop:=
 Ae (decide (c<0)) (Vh R) (Ae (decide (c > 2048)) (Vh R) ((8:Int)≠0/\Ae (decide ((((ByteArray.size d):Nat):Int)<w6 (Int.tdiv (w6 (c+7)) 8))) (R (.tup [aL [],aI 3])) ((0:Int)<=c/\rZ c/\rn 0/\∃(f:Int->Nat×LD->Prop)(h:Int->Nat×LD->Nat),(rh [(9100501,.row false true 0 4 1 (Q5 c))]/\f 0 (0,Q5 c))/\∀(a:Int)(b:Nat×LD),f a b->∀i:Nat->AV,Ae (decide (a<((Q5 c).length:Int))) ((8:Int)≠0/\(0:Int)<=w6 (Int.tdiv a 8)/\∃e:UInt8,((GetElem?.getElem? (VX d) (Int.toNat (w6 (Int.tdiv a 8)))):Option UInt8)=some e/\(8:Int)≠0/\(0:Int)<=Int.tmod a 8/\Oe b/\(0:Int)<=a/\MV a b/\Rj b/\Ry a b/\rq (aS d)/\rq (.row 9100501 0)/\rq (aI ((Q5 c).length:Int))/\rh [(9100501,.row false true (Prod.fst b) 4 1 (List.set (Prod.snd b) (Int.toNat a) (D.bool (IntKind.wrap .u8 (((BitVec.toNat (HAnd.hAnd (BitVec.ofInt (Go.IntKind.bits .u8) (Int.fdiv (((UInt8.toNat e):Nat):Int) (2 ^ (Min.min (Int.toNat (Int.tmod a 8)) (Go.IntKind.bits .u8))))) (BitVec.ofInt (Go.IntKind.bits .u8) 1))):Nat):Int)==1))))]/\f (w6 (a+1)) (Prod.fst b,List.set (Prod.snd b) (Int.toNat a) (D.bool (IntKind.wrap .u8 (((BitVec.toNat (HAnd.hAnd (BitVec.ofInt (Go.IntKind.bits .u8) (Int.fdiv (((UInt8.toNat e):Nat):Int) (2 ^ (Min.min (Int.toNat (Int.tmod a 8)) (Go.IntKind.bits .u8))))) (BitVec.ofInt (Go.IntKind.bits .u8) 1))):Nat):Int)==1)))/\((h (w6 (a+1)) (Prod.fst b,List.set (Prod.snd b) (Int.toNat a) (D.bool (IntKind.wrap .u8 (((BitVec.toNat (HAnd.hAnd (BitVec.ofInt (Go.IntKind.bits .u8) (Int.fdiv (((UInt8.toNat e):Nat):Int) (2 ^ (Min.min (Int.toNat (Int.tmod a 8)) (Go.IntKind.bits .u8))))) (BitVec.ofInt (Go.IntKind.bits .u8) 1))):Nat):Int)==1)))):Nat)<h a b) (Prod.fst b=0/\∃g:bA,Runs A5 37 [aL (Prod.snd b)] [] (aS g) []/\Ae (Bool.not (KM g d)) (R (.tup [aL [],aI 4])) (Prod.fst b=0/\R (.tup [aL (Prod.snd b),aI 0]))))))
def AGl:=λa b c=>PLift.up (by delta V91 MV Oe VX KM Ry Q5 Vh Rj rZ;exact rfl:V91 a b c=_)
theorem AEc a b R:Vc A5 c91.body (Af c91 [aS a,aI b]) [] (Av c91 R)=V91 a b R:=by kernel_rfl
def V33 (c:Int)(R:AV->Prop):Prop:=
 Ae (decide (c<24)) (YS R) (Ae (decide (c > 2048)) (YS R) ((0:Int)<=c/\rZ c/\∃(e:Int->Nat×LD->Prop)(g:Int->Nat×LD->Nat),(rh [hB 3300000 UC,(3300301,.row false true 0 4 1 (Q5 c))]/\e 0 (0,Q5 c))/\∀(b:Int)(a:Nat×LD),e b a->∀h:Nat->AV,Ae (decide (b<10)) (Oe a/\(0:Int)<=b/\MV b a/\Rj a/\Ry b a/\rq (.ptr 3300000 0)/\rq (.row 3300301 0)/\rh [hB 3300000 UC,(3300301,.row false true (Prod.fst a) 4 1 (QF a b))]/\e (w6 (b+1)) (Prod.fst a,QF a b)/\((g (w6 (b+1)) (Prod.fst a,QF a b)):Nat)<g b a) (Prod.fst a=0/\∃(d:Nat)(f:LD),Runs A5 74 [aL (Prod.snd a)] [] (.row 7400001 d) [hR 7400001 d 4 1 f]/\Prod.fst a=0/\d=d/\R (.tup [.agg [aL (Prod.snd a),aL f],aI 0]))))
def AGm:=λa b=>PLift.up (by delta V33 MV Oe YS UC Ry QF Q5 Rj RV rZ;exact rfl:V33 a b=_)
theorem AGo a R:Vc A5 c33.body (Af c33 [aI a]) [] (Av c33 R)=V33 a R:=by kernel_rfl
def pA (b c:LD)(R:AV->Prop):Prop:=
 Ae (HX b c) (R (.n (.bool false))) (∃(d:Int->Prop)(i:Int->Nat),(rh []/\d 0)/\∀a:Int,d a->∀j:Nat->AV,Ae (BK a b) (rn 1/\(0:Int)<=a/\∃g:D,AW b a g/\∃h:Bool,Dt g h/\rn 1/\(0:Int)<=a/\∃f:D,AW c a f/\∃e:Bool,Dt f e/\Ae (Bool.not (h==e)) (R (.n (.bool false))) (cE b c d a i)) (R (.n (.bool true))))
def uA:=λa b c=>PLift.up (by delta pA HX Dt cE AW BK;exact rfl:pA a b c=_)
theorem ACg a b R:Vc A5 c141.body (Af c141 [aL a,aL b]) [] (Av c141 R)=pA a b R:=by kernel_rfl
def V98 (c f d e:LD)(R:AV->Prop):Prop:=
 ∃a:Bool,Runs A5 141 [aL c,aL d] [] (aB a) []/\Ae a (∃b:Bool,Runs A5 141 [aL f,aL e] [] (aB b) []/\R (.n (.bool b))) (R (.n (.bool false)))
theorem AFt a d c b R:Vc A5 c98.body (Af c98 [(.agg [aL a,aL d]),(.agg [aL c,aL b])]) [] (Av c98 R)=V98 a d c b R:=by kernel_rfl
def V49 (f e b:LD)(j g:Int)(d i c:LD)(h k:Int)(R:AV->Prop):Prop:=
 Ae (j != h) (R (.n (.bool false))) (Ae (g != k) (R (.n (.bool false))) (Ae (HX b c) (R (.n (.bool false))) (∃r:Bool,Runs A5 98 [.agg [aL f,aL e],.agg [aL d,aL i]] [] (aB r) []/\Ae (Bool.not r) (R (.n (.bool false))) (∃(l:Int->Prop)(o:Int->Nat),(rh [hB 4900000 (AU f e b j g),hB 4900001 (AU d i c h k)]/\l 0)/\∀a:Int,l a->∀t:Nat->AV,Ae (BK a b) (rn 1/\(0:Int)<=a/\∃s:D,AW b a s/\∃q:bA,Ci s q/\rn 1/\(0:Int)<=a/\∃m:D,AW c a m/\∃p:bA,Ci m p/\Ae (Bool.not (KM q p)) (R (.n (.bool false))) (rq (.ptr 4900000 0)/\rq (.ptr 4900001 0)/\GW b/\rh [hB 4900000 (AU f e b j g),hB 4900001 (AU d i c h k)]/\l (w6 (a+1))/\((o (w6 (a+1))):Nat)<o a)) (R (.n (.bool true)))))))
def AHp:=λa b c d e f g h i j k=>PLift.up (by delta V49 GW HX KM Ci AW AU BK;exact rfl:V49 a b c d e f g h i j k=_)
theorem AF4 h f j e a i d b c g R:Vc A5 c49.body (Af c49 [(.agg [aL h,aL f,aL j,aI e,aI a]),(.agg [aL i,aL d,aL b,aI c,aI g])]) [] (Av c49 R)=V49 h f j e a i d b c g R:=by kernel_rfl
noncomputable instance (a b:Wd):Decidable (a=b):=Classical.propDecidable _
theorem ABQ (a b:List Bool)(ha:Small a.length):Runs A5 141 [aL (Bg a),aL (Bg b)] [] (aB (decide (a=b))) []:=by
 refine An (c:=c141) rfl rfl ?_;rw[ACg,(uA _ _ _).down,AH,AH];refine Aa (λh=>?_) (λh=>?_);·rw[decide_eq_false];rintro rfl;simp at h
 have hl:a.length=b.length:=by
  have:(a.length:Int)=b.length:=by simpa using h
  omega
 refine⟨λi=>0<=i/\i<=a.length/\∀j:Nat,(j:Int)<i->a[j]?=b[j]?,λi=>(a.length-i).toNat,⟨rfl,by omega,by omega,λj hj=>by omega⟩,?_⟩;rintro i ⟨h0,h1,hok⟩ _;refine Ab (λhlt=>?_) (λhge=>?_)
 ·have hi:i.toNat<a.length:=by omega
  have hj:i.toNat<b.length:=by omega
  refine⟨rfl,h0,_,Cg hi,_,rfl,rfl,h0,_,Cg hj,_,rfl,?_⟩;refine Aa (λhx=>?_) (λhx=>?_);·rw[decide_eq_false];rintro rfl;simp at hx
  ·have hx:a[i.toNat]=b[i.toNat]:=by simpa using hx
   repeat (refine And.intro rfl ?_)
   rw[Ad _ (by omega)];refine⟨⟨by omega,by omega,λj hji=>?_⟩,by first|omega|(dsimp only;omega)⟩;by_cases e:(j:Int)<i;·exact hok j e
   ·obtain rfl:j=i.toNat:=by omega
    rw[gI hi,gI hj,hx]
 ·rw[decide_eq_true];refine List.ext_getElem? λj=>?_;by_cases hj:j<a.length;·exact hok j (by omega)
  ·rw[List.getElem?_eq_none (by omega),List.getElem?_eq_none (by omega)]
theorem p98 (a b c d:List Bool)(ha:Small a.length)(hb:Small b.length):Runs A5 98 [Kt a b,Kt c d] [] (.n (.bool (decide (a=c/\b=d)))) []:=by have g1:=ABQ a c ha;have g2:=ABQ b d hb;refine An (c:=c98) rfl rfl ?_;rw[Kt,Kt,AFt,V98];refine⟨_,g1,Ab (λh=>⟨_,g2,?_⟩) (λh=>by rw[decide_eq_false (λhh=>h hh.1)])⟩;congr 2;rw[decide_eq_decide];exact⟨λh2=>⟨h,h2⟩,λh2=>h2.2⟩
theorem iH {a b:Wd}(h1:a.base=b.base)(h2:a.now=b.now)(h3:a.pages=b.pages)(h4:a.root=b.root)(h5:a.gen=b.gen):a=b:=by cases a;cases b;simp_all
theorem p49 (a b:Wd)(hf:WFits a):Runs A5 49 [EA a,EA b] [] (aB (decide (a=b))) []:=by
 have g1:=p98 a.base a.now b.base b.now hf.b hf.n;have no:a≠b->AV.n (D.bool false) = .n (.bool (decide (a=b))):=λh=>by rw[decide_eq_false h]
 refine An (c:=c49) rfl rfl ?_;rw[EA,EA,AF4,(AHp _ _ _ _ _ _ _ _ _ _ _).down,Am,Am];refine Aa (λh=>no (by rintro rfl;simp at h)) (λh1=>Aa (λh=>no (by rintro rfl;simp at h)) (λh2=>Aa (λh=>no (by rintro rfl;simp at h)) (λh3=>⟨_,g1,?_⟩)));have h1:a.root=b.root:=by simpa using h1
 have h2:a.gen=b.gen:=by simpa using h2
 have hl:a.pages.length=b.pages.length:=by
  have:(a.pages.length:Int)=b.pages.length:=by simpa using h3
  omega
 by_cases hc:a.base=b.base/\a.now=b.now
 ·rw[decide_eq_true hc];refine Aa (λh=>by cases h) (λ_=>?_);refine⟨λi=>0<=i/\i<=a.pages.length/\∀j:Nat,(j:Int)<i->a.pages[j]?=b.pages[j]?,λi=>(a.pages.length-i).toNat,⟨rfl,by omega,by omega,λj hj=>by omega⟩,?_⟩;rintro i ⟨h0,h1',hok⟩ _;have hs:=hf.p;refine Ab (λhlt=>?_) (λhge=>?_)
  ·have hi:i.toNat<a.pages.length:=by omega
   have hj:i.toNat<b.pages.length:=by omega
   refine⟨rfl,h0,_,AZ hi,_,rfl,rfl,h0,_,AZ hj,_,rfl,GQ (λhx=>?_) (λhx=>?_)⟩;·refine no λe=>hx ?_;subst e;rfl
   ·repeat (refine And.intro rfl ?_)
    rw[Ad _ (by omega)];refine⟨⟨by omega,by omega,λj hji=>?_⟩,by first|omega|(dsimp only;omega)⟩;by_cases e:(j:Int)<i;·exact hok j e
    ·obtain rfl:j=i.toNat:=by omega
     rw[gI hi,gI hj,hx]
  ·rw[decide_eq_true];refine iH hc.1 hc.2 (List.ext_getElem? λj=>?_) h1 h2;by_cases hj:j<a.pages.length;·exact hok j (by omega)
   ·rw[List.getElem?_eq_none (by omega),List.getElem?_eq_none (by omega)]
 ·rw[decide_eq_false hc];exact Aa (λ_=>no λe=>hc ⟨by rw[e],by rw[e]⟩) (λh=>by cases h)
theorem tq (w:Wd)(hf:WFits w)(hn:w.now.length<=2048):∃va vb,Runs A5 31 [EA w] [] (.ptr 3100101 0) (hT (A4 w) va vb):=by obtain⟨va,vb,g⟩:=p31 w hf hn;exact⟨va,vb,(g.up DL).up Kf⟩
theorem AHi (a b:List Pr)(e:a=b)(ha:Small a.length):Runs A5 30 [.o (.sl 2 (Jm a)),.o (.sl 2 (Jm b))] [] (aB true) []:=by subst e;have g:=((p30 a a ha ha).up DL).up Kf;rw[decide_eq_true rfl]at g;exact g
theorem dG {A B:Prop}(h:A):Ae true A B:=h
theorem L6 {A B:Prop}(h:B):Ae false A B:=h
theorem Qk {w:Wd}{h:Nat}{P:List Pr}{B:List Int}(hr:WRight w)(ht:IsTree w h P B):P.length<=100000/\B.length<=2048:=by have i:=VQ (CK hr);rw[JB ht]at i;have h1:=i.ps;have h2:=i.len;dsimp only at h1 h2;exact⟨by omega,by omega⟩
end Go.Proofs.YtegndijbpiccgaaGreatDoor.M
