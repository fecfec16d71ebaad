import Derived.Test.YtegndijbpiccgaaGreatDoorR5QW7
namespace Go.Proofs.YtegndijbpiccgaaGreatDoor.M
set_option linter.unusedVariables false
set_option linter.unusedSimpArgs false
open Go Go.Mir
set_option maxRecDepth 8000 in
def V8 (d4:Int)(d3 c1:LD)(R:AV->Prop):Prop:=
 ∃(x0 M:LD)(x2 x3 x4 x5 x6:Int)(x7 x8 x9:LD)(d6 b8:Int)(b2:LD)(p L N a6 j:Int)(q c r:LD)(f e:Int)(Q:LD)(z:Bool),QY d4 d3 c1 x0 M x2 x3 x4 x5 x6 x7 x8 x9 d6 b8 b2 p L N a6 j q c r f e Q z/\Ae (Bool.not z) (R (.n (.bool false))) (∃G:Bool,PF G/\Ae (Bool.not G) (R (.n (.bool false))) (∃(a1 a3:LD)(Y a C a2 A b:Int)(d u k:LD)(t i:Int)(I:LD)(h:Int),Runs EM 24 [.agg [aL x0,.o (D.sl 2 M),aI (-1)],.agg (Bv p L N a6 j q c r f e Q)] [] (.tup [C3 a1 a3 Y,.agg (Bv a C a2 A b d u k t i I),aI h]) []/\Ae (h != 0) (R (.n (.bool (h==60)))) (∃(X x:LD)(b1 g Z W J a7:Int)(c2 b7 c5:LD)(c8 b0:Int)(b4:LD)(F:Int),Runs EM 24 [C3 a1 a3 Y,.agg (Bv a C a2 A b d u k t i I)] [] (.tup [C3 X x b1,.agg (Bv g Z W J a7 c2 b7 c5 c8 b0 b4),aI F]) []/\∃(y v K U b6:Int)(a4 a0 V:LD)(H O:Int)(d7:LD)(a5:Int),Runs EM 16 [Es X x] [] (.tup [.agg (Bv y v K U b6 a4 a0 V H O d7),aI a5]) []/\Ae (F != 0) (R (.n (.bool false))) (Ae (a5 != 0) (R (.n (.bool false))) (Ae (a != w6 (p+1)) (R (.n (.bool false))) (Ae (g != w6 (a+1)) (R (.n (.bool false))) (Ae (a7==b) (R (.n (.bool false))) (Ae (b==j) (R (.n (.bool false))) (Ae (Bool.not (y==g&&(v==Z&&(K==W&&(U==J&&true))))) (R (.n (.bool false))) (∃(e0:Unit)(l d5:Nat)(b5:Int)(c0:Bool)(m:Nat)(s:LD)(d8:Nat)(c4:LD),Mn q c r f e l d5 b5 c0 m s d8 c4/\∃(e1:Unit)(S c9:Nat)(b9:Int)(c7:Bool)(P:Nat)(B:LD)(d2:Nat)(b3:LD),Mn d u k t i S c9 b9 c7 P B d2 b3/\P=S/\m=l/\∃E:Bool,UG B s E/\Ae E (∃(d9:Unit)(w a9:Nat)(d1:Int)(c6:Bool)(a8:Nat)(T:LD)(d0:Nat)(c3:LD),Mn a4 a0 V H O w a9 d1 c6 a8 T d0 c3/\a8=w/\m=l/\UT T s R) (R (.n (.bool false)))))))))))))
set_option maxRecDepth 8000 in
def V8e:=λa b c d=>PLift.up (by delta V8 Es UG Bv C3 PF Mn Gx AU UT QY M5;exact rfl:V8 a b c d=_)
set_option maxRecDepth 8000 in
theorem vc8 a c b R:Vc EM c8.body (Af c8 [(.agg [aI a,aL c,(.o (.sl 3 b))])]) [] (Av c8 R)=V8 a c b R:=by kernel_rfl
end Go.Proofs.YtegndijbpiccgaaGreatDoor.M
