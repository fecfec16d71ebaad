import Derived.Test.YtegndijbpiccgaaGreatDoorR5E
namespace Go.Proofs.YtegndijbpiccgaaGreatDoor.M
set_option linter.unusedVariables false
set_option linter.unusedSimpArgs false
open Go Go.Mir
def V76 (f:Int)(b:LD)(R:AV->Prop):Prop:=
 ∃(c:Unit->Int×Unit->Prop)(g:Unit->Int×Unit->Nat),(rh [hB 7600102 [aI (Ck true f 0)]]/\c () (Ck true f 0,()))/\∀(d:Unit)(a:Int×Unit),c d a->∀i:Nat->AV,∃h:Int,Runs Az 122 [aL b] [] (aI h) []/\Ae (decide (a.1<h)) (∃e:Bool,Runs Az 123 [aL b,.fn 124 [.ptr 7600102 0]] [hB 7600102 [aI a.1]] (aB e) [hB 7600102 [aI a.1]]/\Ae (Bool.not e) (R (.n (.int .i64 a.1))) (rq (aL b)/\rh [hB 7600102 [aI (w6 (a.1+1))]]/\c () (w6 (a.1+1),())/\((g () (w6 (a.1+1),())):Nat)<g d a)) (R (.n (.int .i64 (-1))))
theorem AD3 a b R:Vc Az c76.body (Af c76 [aI a,aL b]) [] (Av c76 R)=V76 a b R:=by kernel_rfl
abbrev Vh (a:AV->Prop):=
 a (.tup [aL [],aI 1])
def V77 (h:LD)(e:Bool)(f:LD)(R:AV->Prop):Prop:=
 ∃(c:Nat)(i:LD),Runs Az 74 [aL h] [] (.row 7400001 c) [hR 7400001 c 4 1 i]/\∃(g:Int->Nat×LD->Prop)(k:Int->Nat×LD->Nat),(rh [hR 7750101 c 4 1 i]/\g 0 (c,i))/\∀(d:Int)(a:Nat×LD),g d a->∀l:Nat->AV,Ae (BK d f) (rn 1/\(0:Int)<=d/\∃j:D,AW f d j/\∃b:Int,((D.cells j)[0]?=some (D.int .i64 b))/\Ae (decide (b<0)) (Vh R) (Ae (Lv b h) (Vh R) (Qq a c/\(0:Int)<=b/\MV b a/\V0 c a/\Ry b a/\rq (aL h)/\rq (aB e)/\rq (.row 7750101 c)/\rq (aL f)/\rq (aI (f.length:Int))/\rh [hR 7750101 (Prod.fst a) 4 1 (List.set (Prod.snd a) (Int.toNat b) (D.bool e))]/\g (w6 (d+1)) (Prod.fst a,List.set (Prod.snd a) (Int.toNat b) (D.bool e))/\((k (w6 (d+1)) (Prod.fst a,List.set (Prod.snd a) (Int.toNat b) (D.bool e))):Nat)<k d a))) (Prod.fst a=c/\R (.tup [aL (Prod.snd a),aI 0]))
def ACv:=λa b c d=>PLift.up (by delta V77 MV V0 Ry Qq Vh Oq AW BK Lv;exact rfl:V77 a b c d=_)
theorem AGv b c a R:Vc Az c77.body (Af c77 [aL b,aB c,aL a]) [] (Av c77 R)=V77 b c a R:=by kernel_rfl
abbrev RV:AV:=
 .agg [aL [],aL []]
def V34 (b c:LD)(R:AV->Prop):Prop:=
 ∃f:Bool,Runs Az 75 [.agg [aL b,aL c]] [] (aB f) []/\Ae (Bool.not f) (R (.tup [RV,aI 0,aI 1])) (0=0/\∃a:Int,Runs Az 76 [aI 0,aL [D.sl 1 b,D.sl 1 c]] [] (aI a) []/\Ae (decide (a<0)) (R (.tup [RV,aI 0,aI 60])) (0=0/\∃(d:LD)(e:Int),Runs Az 77 [aL c,aB true,aL [D.int .i64 a]] [] (.tup [aL d,aI e]) []/\R (.tup [.agg [aL b,aL d],aI a,aI e])))
def AFo:=λa b c=>PLift.up (by delta V34 RV;exact rfl:V34 a b c=_)
theorem AC8 a b R:Vc Az c34.body (Af c34 [(.agg [aL a,aL b])]) [] (Av c34 R)=V34 a b R:=by kernel_rfl
abbrev YS (a:AV->Prop):=
 a (.tup [RV,aI 1])
abbrev eX (a:AV->Prop):=
 a (.tup [RV,aI 30])
abbrev aG (a:(Nat×LD))(b:Int):=
 List.set (Prod.snd a) (Int.toNat b) (D.bool false)
def V59 (f e g:LD)(R:AV->Prop):Prop:=
 ∃m:Bool,Runs Az 75 [.agg [aL f,aL e]] [] (aB m) []/\Ae (Bool.not m) (YS R) (∃(c:Nat)(h:LD),Runs Az 74 [aL e] [] (.row 7400001 c) [hR 7400001 c 4 1 h]/\∃(i:Int->MN->Nat×LD->Prop)(l:Int->MN->Nat×LD->Nat),(rh [hB 5900000 [aL f,aL e],hB 5900001 UC,hR 5950302 c 4 1 h]/\i 0 ((),(),()) (c,h))/\∀(d:Int)(j:MN)(a:Nat×LD),i d j a->∀r:Nat->AV,Ae (BK d g) (rn 1/\(0:Int)<=d/\∃p:D,AW g d p/\∃b:Int,((D.cells p)[0]?=some (D.int .i64 b))/\Ae (decide (b<10)) (eX R) (Oq a c/\Ae (decide (b>=((Prod.snd a).length:Int))) (eX R) (Qq a c/\(0:Int)<=b/\MV b a/\cR c a/\∃q:D,eY a b q/\∃k:Bool,Dt q k/\Ae (Bool.not k) (eX R) (Qq a c/\(0:Int)<=b/\MV b a/\V0 c a/\Ry b a/\rq (.ptr 5900000 0)/\rq (.ptr 5900001 0)/\rq (.row 5950302 c)/\rq (aL g)/\rq (aI (g.length:Int))/\rh [hB 5900000 [aL f,aL e],hB 5900001 UC,hR 5950302 (Prod.fst a) 4 1 (aG a b)]/\i (w6 (d+1)) ((),(),()) (Prod.fst a,aG a b)/\((l (w6 (d+1)) ((),(),()) (Prod.fst a,aG a b)):Nat)<l d j a)))) (Prod.fst a=c/\R (.tup [.agg [aL f,aL (Prod.snd a)],aI 0])))
def ADK:=λa b c d=>PLift.up (by delta V59 MV YS aG V0 eX UC eY Ry Qq Oq MN Dt RV cR AW BK;exact rfl:V59 a b c d=_)
theorem AFj a c b R:Vc Az c59.body (Af c59 [(.agg [aL a,aL c]),aL b]) [] (Av c59 R)=V59 a c b R:=by kernel_rfl
abbrev nK:=
 Int->bA×Unit->Prop
abbrev US (c:Bool)(d a b:LD)(e:bA):=
 rh [hB 17300000 [aB c,aL d,aL a,aL b],hB 17300307 [aS e]]
abbrev lB (b c a:bA):=
 Runs Az 196 [aS b,.ptr 17300307 0] [hB 17300307 [aS c]] (.tup []) [hB 17300307 [aS a]]
abbrev aF:=
 rq (.fn 196 [.ptr 17300307 0])
def kD (e:Bool)(a f c:LD)(R:AV->Prop):Prop:=
 ∃t:Bool,Runs Az 195 [Bf e a f c,aB true] [] (aB t) []/\Ae (Bool.not t) (Qi R) (∃(i:bA)(C:Int),Runs Az 79 [aI (a.length:Int),aI 1] [] (.tup [aS i,aI C]) []/\Ae e (∃(p:nK)(s:Int->bA×Unit->Nat),(US e a f c i/\p 0 (i,()))/\∀(d:Int)(j:bA×Unit),p d j->∀F:Nat->AV,Ae (BK d a) (rn 1/\(0:Int)<=d/\∃q:D,AW a d q/\∃w:bA,Ci q w/\∃B:bA,Runs Az 196 [aS w,.ptr 17300307 0] [hB 17300307 [aS j.1]] (.tup []) [hB 17300307 [aS B]]/\rn 1/\(0:Int)<=d/\∃A:D,AW f d A/\∃r:bA,Ci A r/\∃o:bA,lB r B o/\rq (.ptr 17300000 0)/\rq (.ptr 17300307 0)/\aF/\rq (aL a)/\GW a/\US e a f c o/\p (w6 (d+1)) (o,())/\((s (w6 (d+1)) (o,())):Nat)<s d j) (R (.tup [aS j.1,aI 0]))) (∃(m:nK)(k:Int->bA×Unit->Nat),(US e a f c i/\m 0 (i,()))/\∀(b:Int)(g:bA×Unit),m b g->∀G:Nat->AV,Ae (BK b c) (rn 1/\(0:Int)<=b/\∃z:D,AW c b z/\∃v:Int,((D.cells z)[0]?=some (D.int .i64 v))/\∃(x:bA)(E:Int),Runs Az 79 [aI v,aI 2] [] (.tup [aS x,aI E]) []/\0=0/\∃h:bA,Runs Az 83 [aL [D.str g.1,D.str x]] [] (aS h) []/\Ae (BK b a) (rn 1/\(0:Int)<=b/\∃y:D,AW a b y/\∃u:bA,Ci y u/\∃l:bA,lB u h l/\rq (.ptr 17300000 0)/\rq (.ptr 17300307 0)/\aF/\rq (aL c)/\GW c/\US e a f c l/\m (w6 (b+1)) (l,())/\((k (w6 (b+1)) (l,())):Nat)<k b g) (rq (.ptr 17300000 0)/\rq (.ptr 17300307 0)/\aF/\rq (aL c)/\GW c/\US e a f c h/\m (w6 (b+1)) (h,())/\((k (w6 (b+1)) (h,())):Nat)<k b g)) (R (.tup [aS g.1,aI 0]))))
def AAi:=λa b c d e=>PLift.up (by delta kD GW Qi Fl nK Bf Gl Ci aF AW US BK lB;exact rfl:kD a b c d e=_)
theorem vH b d c a R:Vc Az c173.body (Af c173 [(.agg [aB b,aL d,aL c,aL a])]) [] (Av c173 R)=kD b d c a R:=by kernel_rfl
abbrev UD (c:Bool)(d a b:LD)(e:Bool):=
 Runs Az 197 [Bf c d a b] [] (aB e) []
abbrev UF (a:LD):=
 (4:Int)<=(a.length:Int)
abbrev cD (a b:LD):=
 Runs Az 223 [aL [D.sl 1 (List.drop 0 (List.take (Int.toNat 4) a))]] [] (aL b) []
abbrev Ox (a:LD):=
 List.take (List.length a) a
abbrev oR (a b:LD):=
 Runs Az 223 [aL [D.sl 1 (List.drop (Int.toNat 4) (Ox a))]] [] (aL b) []
abbrev pS (a b:LD):AV:=
 .agg [aB true,aL a,aL b,aL []]
abbrev eH (a:LD):=
 (5:Int)<=(a.length:Int)
abbrev qX (a b:LD):AV:=
 .agg [aB false,aL a,aL [],aL b]
def rH (k:Bool)(a c b:LD)(R:AV->Prop):Prop:=
 ∃j:Bool,UD k a c b j/\Ae (Bool.not j) (R (.tup [F5,Gl,F5,aI 1])) (Ae ((a.length:Int) != 9) (R (.tup [F5,Gl,F5,aI 1])) (rn 1/\(0:Int)<=4/\∃l:D,(a[Int.toNat 4]?=some l)/\∃d:bA,Ci l d/\Ae k (rn 1/\(0:Int)<=4/\UF a/\0=0/\∃f:LD,cD a f/\rn 1/\(0:Int)<=4/\UF c/\0=0/\∃i:LD,cD c i/\rn 1/\(0:Int)<=4/\UF a/\0=0/\∃m:LD,oR a m/\rn 1/\(0:Int)<=4/\UF c/\0=0/\∃h:LD,oR c h/\R (.tup [pS f i,aS d,pS m h,aI 0])) (rn 1/\(0:Int)<=4/\UF a/\0=0/\∃e:LD,cD a e/\rn 1/\(0:Int)<=5/\eH b/\0=0/\∃g:LD,Runs Az 224 [aL [D.sl 1 (List.drop 0 (List.take (Int.toNat 5) b))]] [] (aL g) []/\rn 1/\(0:Int)<=5/\eH a/\0=0/\∃o:LD,Runs Az 223 [aL [D.sl 1 (List.drop (Int.toNat 5) (Ox a))]] [] (aL o) []/\rn 1/\(0:Int)<=5/\eH b/\0=0/\∃p:LD,Runs Az 224 [aL [D.sl 1 (List.drop (Int.toNat 5) (Ox b))]] [] (aL p) []/\R (.tup [qX e g,aS d,qX o p,aI 0]))))
def yH:=λa b c d e=>PLift.up (by delta rH eH oR Fl Bf Gl Ci pS UD UF F5 qX cD Ox;exact rfl:rH a b c d e=_)
theorem tG b d c a R:Vc Az c199.body (Af c199 [(.agg [aB b,aL d,aL c,aL a])]) [] (Av c199 R)=rH b d c a R:=by kernel_rfl
abbrev XH (a:AV->Prop):=
 a (.tup [F5,aI 1])
abbrev M6 (a b:LD):List AV:=
 [aL [D.sl 1 a,D.sl 1 b]]
abbrev qH (d:Bool)(e a b:LD)(f:AV->Prop):=
 ∃c:Bool,UD d e a b c/\Ae (Bool.not c) (XH f) (f (.tup [KY d e a b,aI 0]))
def mS (a:Bool)(c n h:LD)(o:bA)(i:Bool)(e j g:LD)(R:AV->Prop):Prop:=
 ∃k:Bool,UD a c n h k/\Ae (Bool.not k) (XH R) (∃l:Bool,UD i e j g l/\Ae (Bool.not l) (XH R) (Ae (Bool.not (a==i)) (XH R) (0=0/\∃f:LD,Runs Az 223 (M6 c e) [] (aL f) []/\0=0/\∃b:LD,Runs Az 223 (M6 n j) [] (aL b) []/\0=0/\∃d:LD,Runs Az 224 (M6 h g) [] (aL d) []/\Ae (Bool.not a) (0=0/\∃m:LD,Runs Az 223 [aL [D.sl 1 c,D.sl 1 [D.str o],D.sl 1 e]] [] (aL m) []/\qH a m b d R) (qH a f b d R))))
def tD:=λa b c d e f g h i j=>PLift.up (by delta mS KY M6 Bf UD XH F5 qH;exact rfl:mS a b c d e f g h i j=_)
theorem tC f d i c b e h g a R:Vc Az c206.body (Af c206 [(.agg [aB f,aL d,aL i,aL c]),aS b,(.agg [aB e,aL h,aL g,aL a])]) [] (Av c206 R)=mS f d i c b e h g a R:=by kernel_rfl
def AA1 (b:LD)(R:AV->Prop):Prop:=
 ∃a:LD,Runs Az 227 [aL b] [] (aL a) []/\R (.o (.sl 1 a))
theorem yJ a R:Vc Az c223.body (Af c223 [aL a]) [] (Av c223 R)=AA1 a R:=by kernel_rfl
def AAu (b:LD)(R:AV->Prop):Prop:=
 ∃a:LD,Runs Az 228 [aL b] [] (aL a) []/\R (.o (.sl 1 a))
theorem tI a R:Vc Az c224.body (Af c224 [aL a]) [] (Av c224 R)=AAu a R:=by kernel_rfl
abbrev ZU (a:Int)(d:LD)(b:Int)(g:(Int->(Int->Prop)))(f:(Int->(Int->Nat))):=
 rn 1/\(0:Int)<=a/\∃e:D,AW d a e/\∃c:LD,Lx e c/\Ae (decide (w6 (b+(c.length:Int))<0)) False (rq (aL d)/\rq (aL d)/\rq (aI (d.length:Int))/\rh []/\g (w6 (b+(c.length:Int))) (w6 (a+1))/\((f (w6 (b+(c.length:Int))) (w6 (a+1))):Nat)<f b a)
def iN (e:LD)(R:AV->Prop):Prop:=
 ∃(j:Int->Int->Prop)(o:Int->Int->Nat),(rh []/\j 0 0)/\∀(g h:Int),j g h->∀p:Nat->AV,Ae (BK h e) (ZU h e g j o) (∃(f:Nat)(i:LD),Runs Az 242 [.n D.nil,aI g] [] (.row 24200001 f) [hR 24200001 f 9 1 i]/\∃(k:eG)(l:dR),(rh [hR 22750901 f 9 1 i]/\k f 0 (f,i))/\∀(a:Nat)(c:Int)(b:Nat×LD),k a c b->∀q:Nat->AV,Ae (BK c e) (rn 1/\(0:Int)<=c/\∃m:D,AW e c m/\∃d:LD,Lx m d/\(rn 1\/@Eq LD d [])/\((Oq b a/\rn 9)/\rn 1)/\(((Jn b+List.length d)*16):Nat)<=140737488355328/\rq (aL e)/\rq (aI (e.length:Int))/\rh [hR 22750901 (a+1) 9 1 (Prod.snd b++d)]/\k (a+1) (w6 (c+1)) (a+1,Prod.snd b++d)/\((l (a+1) (w6 (c+1)) (a+1,Prod.snd b++d)):Nat)<l a c b) (PK b a R))
def yV:=λa b=>PLift.up (by delta iN Oq PK eG ZU dR Lx AW Jn BK;exact rfl:iN a b=_)
theorem wQ a R:Vc Az c227.body (Af c227 [aL a]) [] (Av c227 R)=iN a R:=by kernel_rfl
def oJ (e:LD)(R:AV->Prop):Prop:=
 ∃(j:Int->Int->Prop)(o:Int->Int->Nat),(rh []/\j 0 0)/\∀(g h:Int),j g h->∀p:Nat->AV,Ae (BK h e) (ZU h e g j o) (∃(f:Nat)(i:LD),Runs Az 243 [.n D.nil,aI g] [] (.row 24300001 f) [hR 24300001 f 3 1 i]/\∃(k:eG)(l:dR),(rh [hR 22850901 f 3 1 i]/\k f 0 (f,i))/\∀(a:Nat)(c:Int)(b:Nat×LD),k a c b->∀q:Nat->AV,Ae (BK c e) (rn 1/\(0:Int)<=c/\∃m:D,AW e c m/\∃d:LD,Lx m d/\(rn 1\/@Eq LD d [])/\((Oq b a/\rn 3)/\rn 1)/\(((Jn b+List.length d)*8):Nat)<=140737488355328/\rq (aL e)/\rq (aI (e.length:Int))/\rh [hR 22850901 (a+1) 3 1 (Prod.snd b++d)]/\k (a+1) (w6 (c+1)) (a+1,Prod.snd b++d)/\((l (a+1) (w6 (c+1)) (a+1,Prod.snd b++d)):Nat)<l a c b) (PK b a R))
def vM:=λa b=>PLift.up (by delta oJ Oq PK eG ZU dR Lx AW Jn BK;exact rfl:oJ a b=_)
theorem xX a R:Vc Az c228.body (Af c228 [aL a]) [] (Av c228 R)=oJ a R:=by kernel_rfl
def wJ (a b:bA)(R:AV->Prop):Prop:=
 Ae (decide ((((ByteArray.size a):Nat):Int)>=1)) (Ae (decide ((((ByteArray.size a):Nat):Int)<=32)) (R (.n (.bool (decide ((((ByteArray.size b):Nat):Int)<=200))))) (R (.n (.bool false)))) (R (.n (.bool false)))
theorem zO a b R:Vc Az c147.body (Af c147 [aS a,aS b]) [] (Av c147 R)=wJ a b R:=by kernel_rfl
abbrev Pu:AV:=
 .agg [aL [],aL [],aL [],aI 0,aI 0]
abbrev M3 (a:AV->Prop):=
 a (.tup [Pu,aI 1])
abbrev By (d e:LD)(a:Nat)(b f c:Int):=
 hB 14800202 [aL d,aL e,.row 14850102 a,aI b,aI f,aI c]
abbrev M7 (d e a:LD)(b f c:Int):AV:=
 .tup [.agg (AU d e a b f),aI c]
abbrev RH (h j:LD)(g:Nat)(w y r:Int)(z:Nat)(p:LD)(q:AV->Prop):=
 ∃(d f e:LD)(a b c:Int)(s:Bool)(v l:LD)(i:Nat)(m u k:Int)(x:Nat)(t:LD),Runs Az 150 [.ptr 14800202 0] [By h j g w y r,hR 14850102 z 9 1 p] (M7 d f e a b c) [By v l i m u k,(14850102,.row s false x 9 1 t)]/\q (.tup [.agg [aL d,aL f,aL e,aI a,aI b],aI c])
abbrev Kj (a b:bA):=
 hB 11400305 [.ptr 14800202 0,aS a,aS b]
def hZ (M J G:LD)(a N:Int)(l r:bA)(R:AV->Prop):Prop:=
 ∃L:Bool,Runs Az 67 [.agg (AU M J G a N)] [] (aB L) []/\Ae (Bool.not L) (M3 R) (∃S:Bool,Runs Az 147 [aS l,aS r] [] (aB S) []/\Ae (Bool.not S) (M3 R) (∃(Z:Unit)(d h:LD)(m:Nat)(f c e:Int)(o:Nat)(s:LD),Runs Az 148 [.agg (AU M J G a N)] [] (.ptr 14800202 0) [By d h m f c e,hR 14850102 o 9 1 s]/\Ae (a==0) (0=0/\0=0/\∃(C:Int)(w F:LD)(Q:Nat)(Y O x:Int)(I:Nat)(B:LD),Runs Az 149 [.ptr 14800202 0,.agg [aB true,aL [D.str l],aL [D.str r],aL []]] [By d h m f c e,hR 14850102 o 9 1 s] (aI C) [By w F Q Y O x,hR 14850102 I 9 1 B]/\RH w F Q C O x I B R) (∃(b z:Int)(P:bA)(v:Bool)(V X:bA)(k i:LD)(g:Nat)(W n j:Int)(p:Nat)(q:LD),Runs Az 151 [.ptr 11400305 0,aI a,aI 1] [Kj l r,By d h m f c e,hR 14850102 o 9 1 s] (.agg [aI b,aI z,aS P,aB v]) [Kj V X,By k i g W n j,hR 14850102 p 9 1 q]/\Ae v (0=0/\0=0/\∃(K:Int)(E T:LD)(t:Nat)(U y H:Int)(A:Nat)(u:LD),Runs Az 149 [.ptr 14800202 0,.agg [aB false,aL [D.str P],aL [],aL [D.int .i64 b,D.int .i64 z]]] [By k i g b n j,hR 14850102 p 9 1 q] (aI K) [By E T t U y H,hR 14850102 A 9 1 u]/\RH E T t K y H A u R) (RH k i g b n j p q R))))
def uH:=λa b c d e f g h=>PLift.up (by delta hZ M3 By Kj Pu RH M7 AU;exact rfl:hZ a b c d e f g h=_)
theorem vJ e d g c a b f R:Vc Az c114.body (Af c114 [(.agg [aL e,aL d,aL g,aI c,aI a]),aS b,aS f]) [] (Av c114 R)=hZ e d g c a b f R:=by kernel_rfl
def AAl (a:bA)(R:AV->Prop):Prop:=
 Ae (decide ((((ByteArray.size a):Nat):Int)>=1)) (R (.n (.bool (decide ((((ByteArray.size a):Nat):Int)<=32))))) (R (.n (.bool false)))
theorem AAS a R:Vc Az c115.body (Af c115 [aS a]) [] (Av c115 R)=AAl a R:=by kernel_rfl
abbrev Ks (c:LD)(a:Nat)(b:LD):=
 Runs Az 119 [aL c] [] (.row 11900001 a) [hR 11900001 a 9 1 b]
def rI (j:Bool)(h k i:LD)(c:Int)(R:AV->Prop):Prop:=
 ∃(b:Nat)(f:LD),Ks h b f/\∃d:LD,Runs Az 204 [.row 18250102 b,aI c,F3 c] [hR 18250102 b 9 1 f] (.row 18250102 (b+1)) [hR 18250102 (b+1) 9 1 d]/\∃(a:Nat)(e:LD),Ks k a e/\∃g:LD,Runs Az 204 [.row 18250202 a,aI c,F3 c] [hR 18250202 a 9 1 e] (.row 18250202 (a+1)) [hR 18250202 (a+1) 9 1 g]/\b+1=b+1/\a+1=a+1/\R (KY j d g i)
def xV:=λa b c d e f=>PLift.up (by delta rI KY F3 Ks;exact rfl:rI a b c d e f=_)
theorem ABm d c e b a R:Vc Az c182.body (Af c182 [(.agg [aB d,aL c,aL e,aL b]),aI a]) [] (Av c182 R)=rI d c e b a R:=by kernel_rfl
abbrev bD (a b:LD):AV:=
 aL (List.drop 0 (List.take (Int.toNat (w6 ((a.length:Int)-1))) b))
abbrev iE (a b:LD):AV:=
 aL (List.drop (Int.toNat (w6 ((a.length:Int)-1))) (Ox b))
abbrev nS (b:LD)(d:bA)(a c:LD):=
 Runs Az 227 [aL [D.sl 1 b,D.sl 1 [D.str d],D.sl 1 a]] [] (aL c) []
abbrev nC (a b:LD):AV:=
 aL (List.drop (Int.toNat (w6 (w6 ((a.length:Int)-1)+1))) (Ox b))
abbrev eV (a b:LD):AV:=
 aL (List.drop 0 (List.take (Int.toNat (w6 ((a.length:Int)+1))) b))
abbrev oD (a b:LD):AV:=
 aL (List.drop (Int.toNat (w6 ((a.length:Int)+1))) (Ox b))
abbrev nX (a b:LD):AV:=
 aL (List.drop (Int.toNat (w6 (w6 ((a.length:Int)+1)+1))) (Ox b))
def rO (q:Bool)(a y u:LD)(t:bA)(z:Bool)(i v p:LD)(R:AV->Prop):Prop:=
 0=0/\∃b:LD,Runs Az 227 (M6 a i) [] (aL b) []/\Ae (decide ((a.length:Int) > (i.length:Int))) (Ae q (0=0/\∃g:LD,Runs Az 227 (M6 y v) [] (aL g) []/\rn 1/\(0:Int)<=w6 ((a.length:Int)-1)/\((w6 ((a.length:Int)-1)):Int)<=(b.length:Int)/\(0:Int)<=w6 ((a.length:Int)-1)/\((w6 ((a.length:Int)-1)):Int)<=(((Int.toNat (w6 ((a.length:Int)-1))):Nat):Int)/\rn 1/\(0:Int)<=w6 ((a.length:Int)-1)/\((w6 ((a.length:Int)-1)):Int)<=(g.length:Int)/\(0:Int)<=w6 ((a.length:Int)-1)/\((w6 ((a.length:Int)-1)):Int)<=(((Int.toNat (w6 ((a.length:Int)-1))):Nat):Int)/\rn 1/\(0:Int)<=w6 ((a.length:Int)-1)/\∃k:D,(b[Int.toNat (w6 ((a.length:Int)-1))]?=some k)/\∃l:bA,Ci k l/\rn 1/\(0:Int)<=w6 ((a.length:Int)-1)/\((w6 ((a.length:Int)-1)):Int)<=(b.length:Int)/\rn 1/\(0:Int)<=w6 ((a.length:Int)-1)/\((w6 ((a.length:Int)-1)):Int)<=(g.length:Int)/\R (.tup [.agg [aB true,bD a b,bD a g,aL []],aS l,.agg [aB true,iE a b,iE a g,aL []]])) (0=0/\∃c:LD,nS a t i c/\0=0/\∃h:LD,Runs Az 228 (M6 u p) [] (aL h) []/\rn 1/\(0:Int)<=w6 ((a.length:Int)-1)/\((w6 ((a.length:Int)-1)):Int)<=(c.length:Int)/\(0:Int)<=w6 ((a.length:Int)-1)/\((w6 ((a.length:Int)-1)):Int)<=(((Int.toNat (w6 ((a.length:Int)-1))):Nat):Int)/\rn 1/\(0:Int)<=w6 (w6 ((a.length:Int)-1)+1)/\((w6 (w6 ((a.length:Int)-1)+1)):Int)<=(h.length:Int)/\(0:Int)<=w6 (w6 ((a.length:Int)-1)+1)/\((w6 (w6 ((a.length:Int)-1)+1)):Int)<=(((Int.toNat (w6 (w6 ((a.length:Int)-1)+1))):Nat):Int)/\rn 1/\(0:Int)<=w6 ((a.length:Int)-1)/\∃m:D,(c[Int.toNat (w6 ((a.length:Int)-1))]?=some m)/\∃j:bA,Ci m j/\rn 1/\(0:Int)<=w6 (w6 ((a.length:Int)-1)+1)/\((w6 (w6 ((a.length:Int)-1)+1)):Int)<=(c.length:Int)/\rn 1/\(0:Int)<=w6 (w6 ((a.length:Int)-1)+1)/\((w6 (w6 ((a.length:Int)-1)+1)):Int)<=(h.length:Int)/\R (.tup [.agg [aB false,bD a c,aL [],aL (List.drop 0 (List.take (Int.toNat (w6 (w6 ((a.length:Int)-1)+1))) h))],aS j,.agg [aB false,nC a c,aL [],nC a h]]))) (Ae q (0=0/\∃e:LD,Runs Az 227 (M6 y v) [] (aL e) []/\rn 1/\(0:Int)<=w6 ((a.length:Int)+1)/\((w6 ((a.length:Int)+1)):Int)<=(b.length:Int)/\(0:Int)<=w6 ((a.length:Int)+1)/\((w6 ((a.length:Int)+1)):Int)<=(((Int.toNat (w6 ((a.length:Int)+1))):Nat):Int)/\rn 1/\(0:Int)<=w6 ((a.length:Int)+1)/\((w6 ((a.length:Int)+1)):Int)<=(e.length:Int)/\(0:Int)<=w6 ((a.length:Int)+1)/\((w6 ((a.length:Int)+1)):Int)<=(((Int.toNat (w6 ((a.length:Int)+1))):Nat):Int)/\rn 1/\(0:Int)<=w6 ((a.length:Int)+1)/\∃r:D,(b[Int.toNat (w6 ((a.length:Int)+1))]?=some r)/\∃x:bA,Ci r x/\rn 1/\(0:Int)<=w6 ((a.length:Int)+1)/\((w6 ((a.length:Int)+1)):Int)<=(b.length:Int)/\rn 1/\(0:Int)<=w6 ((a.length:Int)+1)/\((w6 ((a.length:Int)+1)):Int)<=(e.length:Int)/\R (.tup [.agg [aB true,eV a b,eV a e,aL []],aS x,.agg [aB true,oD a b,oD a e,aL []]])) (0=0/\∃d:LD,nS a t i d/\0=0/\∃f:LD,Runs Az 228 (M6 u p) [] (aL f) []/\rn 1/\(0:Int)<=w6 ((a.length:Int)+1)/\((w6 ((a.length:Int)+1)):Int)<=(d.length:Int)/\(0:Int)<=w6 ((a.length:Int)+1)/\((w6 ((a.length:Int)+1)):Int)<=(((Int.toNat (w6 ((a.length:Int)+1))):Nat):Int)/\rn 1/\(0:Int)<=w6 (w6 ((a.length:Int)+1)+1)/\((w6 (w6 ((a.length:Int)+1)+1)):Int)<=(f.length:Int)/\(0:Int)<=w6 (w6 ((a.length:Int)+1)+1)/\((w6 (w6 ((a.length:Int)+1)+1)):Int)<=(((Int.toNat (w6 (w6 ((a.length:Int)+1)+1))):Nat):Int)/\rn 1/\(0:Int)<=w6 ((a.length:Int)+1)/\∃w:D,(d[Int.toNat (w6 ((a.length:Int)+1))]?=some w)/\∃s:bA,Ci w s/\rn 1/\(0:Int)<=w6 (w6 ((a.length:Int)+1)+1)/\((w6 (w6 ((a.length:Int)+1)+1)):Int)<=(d.length:Int)/\rn 1/\(0:Int)<=w6 (w6 ((a.length:Int)+1)+1)/\((w6 (w6 ((a.length:Int)+1)+1)):Int)<=(f.length:Int)/\R (.tup [.agg [aB false,eV a d,aL [],aL (List.drop 0 (List.take (Int.toNat (w6 (w6 ((a.length:Int)+1)+1))) f))],aS s,.agg [aB false,nX a d,aL [],nX a f]])))
def vR:=λa b c d e f g h i j=>PLift.up (by delta rO eV iE nC oD M6 nS Ci bD nX Ox;exact rfl:rO a b c d e f g h i j=_)
theorem ABL f d i c b e h g a R:Vc Az c208.body (Af c208 [(.agg [aB f,aL d,aL i,aL c]),aS b,(.agg [aB e,aL h,aL g,aL a])]) [] (Av c208 R)=rO f d i c b e h g a R:=by kernel_rfl
abbrev Mg (a:bA):=
 hB 11600504 [.ptr 14800202 0,aS a]
abbrev M0 (c:Bool)(i a p s o:LD)(t:Nat)(k l j:Int)(g:Nat)(r:LD)(m:Int)(u q:LD)(n:Nat)(d f h:Int)(e:Nat)(b:LD):=
 Runs Az 149 [.ptr 14800202 0,Bf c i a p] [By s o t k l j,hR 14850102 g 9 1 r] (aI m) [By u q n d f h,hR 14850102 e 9 1 b]
def qF (M H E:LD)(h Q:Int)(y:bA)(R:AV->Prop):Prop:=
 ∃L:Bool,Runs Az 67 [.agg (AU M H E h Q)] [] (aB L) []/\Ae (Bool.not L) (M3 R) (∃T:Bool,Runs Az 115 [aS y] [] (aB T) []/\Ae (Bool.not T) (M3 R) (Ae (h==0) (R (.tup [Pu,aI 80])) (∃(x2:Unit)(m t:LD)(z:Nat)(q l p:Int)(P:Nat)(U:LD),Runs Az 148 [.agg (AU M H E h Q)] [] (.ptr 14800202 0) [By m t z q l p,hR 14850102 P 9 1 U]/\∃(j:Bool)(i B k:LD)(a7:bA)(g b:LD)(d:Nat)(x e a:Int)(f:Nat)(c:LD),Runs Az 152 [.ptr 11600504 0,aI h,aI 1] [Mg y,By m t z q l p,hR 14850102 P 9 1 U] (Bf j i B k) [Mg a7,By g b d x e a,hR 14850102 f 9 1 c]/\Ae (a != 0) (R (.tup [Pu,aI a])) (Ae (decide ((i.length:Int) > 0)) (∃(w:Int)(N G:LD)(K:Nat)(a2 v F:Int)(J:Nat)(C:LD),M0 j i B k g b d x e a f c w N G K a2 v F J C/\RH N G K w v F J C R) (Ae j (∃(S I A:LD)(V r s:Int)(X:Bool)(a3 Z:LD)(W:Nat)(a6 Y a0:Int)(a5:Nat)(a4:LD),Runs Az 150 [.ptr 14800202 0] [hB 14800202 [aL g,aL b,.row 14850102 d,aI 0,aI e,aI a],hR 14850102 f 9 1 c] (M7 S I A V r s) [By a3 Z W a6 Y a0,(14850102,.row X false a5 9 1 a4)]/\R (.tup [.agg [aL S,aL I,aL A,aI V,aI r],aI s])) (rn 1/\(0:Int)<=0/\∃u:D,(k[Int.toNat 0]?=some u)/\∃O:Int,((D.cells u)[0]?=some (D.int .i64 O))/\RH g b d O e a f c R))))))
def ACj:=λa b c d e f g=>PLift.up (by delta qF M3 By M0 Bf Pu RH M7 Mg AU;exact rfl:qF a b c d e f g=_)
theorem xC e d f c a b R:Vc Az c116.body (Af c116 [(.agg [aL e,aL d,aL f,aI c,aI a]),aS b]) [] (Av c116 R)=qF e d f c a b R:=by kernel_rfl
abbrev HS:=
 LD×LD×Int×Int×Unit
abbrev RA:=
 Unit×Unit×Unit×Int×Int×Unit
abbrev kX (i:Int)(l:AV->Prop)(h b f e:LD)(g d:Int)(a:RA)(m:(Int->((LD×HS)->(RA->Prop))))(c:Int)(j:(Int->((LD×HS)->(RA->Nat))))(k:(LD×HS)):=
 Ae (i != 0) (l (.tup [Pu,aI i])) (rq (.ptr 7000000 0)/\rq (.ptr 7000001 0)/\rq (.o (D.sl 3 h))/\rq (aI (h.length:Int))/\rh [hB 7000000 (AU b f e g d),hB 7000001 [.n D.nil,.n D.nil,.n D.nil,aI a.2.2.2.1,aI a.2.2.2.2.1]]/\m (w6 (c+1)) (b,f,e,g,d,()) ((),(),(),a.2.2.2.1,a.2.2.2.2.1,())/\((j (w6 (c+1)) (b,f,e,g,d,()) ((),(),(),a.2.2.2.1,a.2.2.2.2.1,())):Nat)<j c k a)
def V70 (j i q:LD)(p m:Int)(d:LD)(R:AV->Prop):Prop:=
 ∃v:Bool,Runs Az 67 [.agg (AU j i q p m)] [] (aB v) []/\Ae (Bool.not v) (M3 R) (∃(e:Int->LD×HS->RA->Prop)(f:Int->LD×HS->RA->Nat),(rh [hB 7000000 (AU j i q p m),hB 7000001 [.n D.nil,.n D.nil,.n D.nil,aI 0,aI 0]]/\e 0 (j,i,q,p,m,()) ((),(),(),0,0,()))/\∀(c:Int)(a:LD×HS)(b:RA),e c a b->∀G:Nat->AV,Ae (BK c d) (rn 3/\(0:Int)<=c/\∃h:D,AW d c h/\∃(g l:bA)(F:Bool),@Eq LD (List.take 3 (D.cells h)) [D.str g,D.str l,D.bool F]/\(3:Nat)<=List.length (D.cells h)/\Ae (Bool.not F) (∃(C t E:LD)(A s z:Int),Runs Az 114 [.agg [aL a.1,aL a.2.1,aL a.2.2.1,aI a.2.2.2.1,aI a.2.2.2.2.1],aS g,aS l] [] (M7 C t E A s z) []/\kX z R d C t E A s b e c f a) (∃u:Bool,Runs Az 115 [aS g] [] (aB u) []/\Ae (Bool.not u) (M3 R) (Ae (gH l) (M3 R) (∃(r B w:LD)(y x k:Int),Runs Az 116 [.agg [aL a.1,aL a.2.1,aL a.2.2.1,aI a.2.2.2.1,aI a.2.2.2.2.1],aS g] [] (M7 r B w y x k) []/\Ae (k==80) (rq (.ptr 7000000 0)/\rq (.ptr 7000001 0)/\rq (.o (D.sl 3 d))/\rq (aI (d.length:Int))/\rh [hB 7000000 [aL a.1,aL a.2.1,aL a.2.2.1,aI a.2.2.2.1,aI a.2.2.2.2.1],hB 7000001 [.n D.nil,.n D.nil,.n D.nil,aI b.2.2.2.1,aI b.2.2.2.2.1]]/\e (w6 (c+1)) (a.1,a.2.1,a.2.2.1,a.2.2.2.1,a.2.2.2.2.1,()) ((),(),(),b.2.2.2.1,b.2.2.2.2.1,())/\((f (w6 (c+1)) (a.1,a.2.1,a.2.2.1,a.2.2.2.1,a.2.2.2.2.1,()) ((),(),(),b.2.2.2.1,b.2.2.2.2.1,())):Nat)<f c a b) (kX k R d r B w y x b e c f a))))) (R (.tup [.agg [aL a.1,aL a.2.1,aL a.2.2.1,aI a.2.2.2.1,aI a.2.2.2.2.1],aI 0])))
def ACN:=λa b c d e f g=>PLift.up (by delta V70 kX HS M3 gH Fl Pu RA M7 AW AU BK;exact rfl:V70 a b c d e f g=_)
theorem AEQ e d f c a b R:Vc Az c70.body (Af c70 [(.agg [aL e,aL d,aL f,aI c,aI a]),(.o (.sl 3 b))]) [] (Av c70 R)=V70 e d f c a b R:=by kernel_rfl
def Xg (d g c:LD)(f e:Int)(R:AV->Heap->Prop):Prop:=
 ∃(a:Nat)(b:LD),Ks c a b/\R (.ptr 14800202 0) [hB 14800202 [aL d,aL g,.row 14850102 a,aI f,aI e,aI 0],hR 14850102 a 9 1 b]
def jL:=λa b c d e f=>PLift.up (by delta Xg Ks;exact rfl:Xg a b c d e f=_)
theorem mQ (ba:LD)(no:LD)(pa:LD)(ro:Int)(ge:Int)(R:AV->Heap->Prop):Vc Az c148.body (Af c148 [(.agg [aL ba,aL no,aL pa,aI ro,aI ge])]) [] (Nh c148 R)=Xg ba no pa ro ge R:=by kernel_rfl
abbrev CJ (d e:LD)(a:Nat)(b f c:Int):=
 hB 14800202 [aL d,aL e,.row 14850102 a,aI b,aI f,aI c]
abbrev Jk (c d:LD)(a:Nat)(b e:Int):=
 hB 14800202 [aL c,aL d,.row 14850102 a,aI b,aI e,aI 81]
def Ye (a b:LD)(v:Nat)(d e f:Int)(c:LD)(m i:Int)(R:AV->Heap->Prop):Prop:=
 Ae (f != 0) (R IX [CJ a b v d e f,hR 14850102 v 9 1 c]) (v=v/\∃(k:Bool)(l g h:LD)(j:Int),Runs Az 171 [.agg (AU a b c d e),aI m,aB (i==1)] [] (.tup [Im k l g h,aI j]) []/\Ae (j != 0) (R IX [Jk a b v d e,hR 14850102 v 9 1 c]) (Ae (decide (i > 8)) (R IX [Jk a b v d e,hR 14850102 v 9 1 c]) (R (U7 k l g h) [CJ a b v d e f,hR 14850102 v 9 1 c])))
def qV:=λa b c d e f g h i j=>PLift.up (by delta Ye CJ Jk Im U7 AU IX;exact rfl:Ye a b c d e f g h i j=_)
theorem kO (ba:LD)(no:LD)(v:Nat)(ro:Int)(ge:Int)(bad:Int)(pa:LD)(block:Int)(deep:Int)(R:AV->Heap->Prop):Vc Az c174.body (Af c174 [.ptr 14800202 0,aI block,aI deep]) [(14800202,.box [aL ba,aL no,.row 14850102 v,aI ro,aI ge,aI bad]),(14850102,.row false false v 9 1 pa)] (AP c174 [(14800202,.box [aL ba,aL no,.row 14850102 v,aI ro,aI ge,aI bad]),(14850102,.row false false v 9 1 pa)] R)=Ye ba no v ro ge bad pa block deep R:=by kernel_rfl
def Xu (a b:LD)(v:Nat)(e f d:Int)(c:LD)(j:Int)(R:AV->Heap->Prop):Prop:=
 Ae (d != 0) (R (.tup []) [CJ a b v e f d,hR 14850102 v 9 1 c]) (0=0/\∃(h i:LD)(g:Int),Runs Az 59 [.agg [aL a,aL b],aL [D.int .i64 j]] [] (.tup [.agg [aL h,aL i],aI g]) []/\Ae (g != 0) (R (.tup []) [Jk a b v e f,hR 14850102 v 9 1 c]) (R (.tup []) [CJ h i v e f d,hR 14850102 v 9 1 c]))
def nM:=λa b c d e f g h i=>PLift.up (by delta Xu CJ Jk;exact rfl:Xu a b c d e f g h i=_)
theorem nF (ba:LD)(no:LD)(v:Nat)(ro:Int)(ge:Int)(bad:Int)(pa:LD)(block:Int)(R:AV->Heap->Prop):Vc Az c175.body (Af c175 [.ptr 14800202 0,aI block]) [(14800202,.box [aL ba,aL no,.row 14850102 v,aI ro,aI ge,aI bad]),(14850102,.row false false v 9 1 pa)] (AP c175 [(14800202,.box [aL ba,aL no,.row 14850102 v,aI ro,aI ge,aI bad]),(14850102,.row false false v 9 1 pa)] R)=Xu ba no v ro ge bad pa block R:=by kernel_rfl
abbrev gY (m:Int)(h:AV->Heap->Prop)(d e:LD)(a:Nat)(g i:Int)(c:LD)(l:Int)(o:bA):=
 Ae (m != 0) (h (.n (.int .i64 0)) [Jk d e a g i,hR 14850102 a 9 1 c]) (∃(j k:LD)(b f:Int),Runs Az 34 [.agg [aL d,aL e]] [] (.tup [.agg [aL j,aL k],aI b,aI f]) []/\Ae (f != 0) (h (.n (.int .i64 0)) [CJ d e a g i f,hR 14850102 a 9 1 c]) ((rn a/\rn 1)/\(0:Int)<=b/\Km b c/\I6 a/\OG b c/\h (.n (.int .i64 b)) [CJ j k a g i l,hR 14850102 a 9 1 (List.set c (Int.toNat b) (D.str o))]))
def Zp (b c:LD)(v:Nat)(e a f:Int)(d:LD)(g:Bool)(l o r:LD)(R:AV->Heap->Prop):Prop:=
 Ae (f != 0) (R (.n (.int .i64 0)) [CJ b c v e a f,hR 14850102 v 9 1 d]) (Ae g (∃(k:bA)(p:Int),Runs Az 173 [Bf g l o r] [] (.tup [aS k,aI p]) []/\Ae (p != 0) (R (.n (.int .i64 0)) [Jk b c v e a,hR 14850102 v 9 1 d]) (∃(h:bA)(i:Int),Runs Az 36 [.agg [aI 1,aI a,aS k]] [] (.tup [aS h,aI i]) []/\gY i R b c v e a d f h)) (∃(j:bA)(m:Int),Runs Az 173 [Bf g l o r] [] (.tup [aS j,aI m]) []/\Ae (m != 0) (R (.n (.int .i64 0)) [Jk b c v e a,hR 14850102 v 9 1 d]) (∃(s:bA)(q:Int),Runs Az 36 [.agg [aI 2,aI a,aS j]] [] (.tup [aS s,aI q]) []/\gY q R b c v e a d f s)))
def mY:=λa b c d e f g h i j k l=>PLift.up (by delta Zp Km CJ I6 Jk Bf OG gY;exact rfl:Zp a b c d e f g h i j k l=_)
theorem kZ (ba:LD)(no:LD)(v:Nat)(ro:Int)(ge:Int)(bad:Int)(pa:LD)(nl:Bool)(nk:LD)(nv:LD)(nc:LD)(R:AV->Heap->Prop):Vc Az c149.body (Af c149 [.ptr 14800202 0,(.agg [aB nl,aL nk,aL nv,aL nc])]) [(14800202,.box [aL ba,aL no,.row 14850102 v,aI ro,aI ge,aI bad]),(14850102,.row false false v 9 1 pa)] (AP c149 [(14800202,.box [aL ba,aL no,.row 14850102 v,aI ro,aI ge,aI bad]),(14850102,.row false false v 9 1 pa)] R)=Zp ba no v ro ge bad pa nl nk nv nc R:=by kernel_rfl
def Yx (c f:LD)(v:Nat)(e d a:Int)(b:LD)(R:AV->Heap->Prop):Prop:=
 Ae (a != 0) (R (.tup [Pu,aI a]) [CJ c f v e d a,hR 14850102 v 9 1 b]) (v=v/\R (.tup [.agg [aL c,aL f,aL b,aI e,aI d],aI 0]) [CJ c f v e d a,(14850102,.row true false v 9 1 b)])
def mT:=λa b c d e f g h=>PLift.up (by delta Yx Pu CJ;exact rfl:Yx a b c d e f g h=_)
theorem oE (ba:LD)(no:LD)(v:Nat)(ro:Int)(ge:Int)(bad:Int)(pa:LD)(R:AV->Heap->Prop):Vc Az c150.body (Af c150 [.ptr 14800202 0]) [(14800202,.box [aL ba,aL no,.row 14850102 v,aI ro,aI ge,aI bad]),(14850102,.row false false v 9 1 pa)] (AP c150 [(14800202,.box [aL ba,aL no,.row 14850102 v,aI ro,aI ge,aI bad]),(14850102,.row false false v 9 1 pa)] R)=Yx ba no v ro ge bad pa R:=by kernel_rfl
abbrev MZ (a b:bA):=
 hB 11400305 [.ptr 14800202 0,aS a,aS b]
abbrev WN:AV:=
 .agg [aI 0,aI 0,Gl,aB false]
def Wv (h a:bA)(d b:LD)(v:Nat)(g c X:Int)(f:LD)(E:Bool)(e S A:LD)(R:AV->Heap->Prop):Prop:=
 Ae (RE e) (∃(L:Int)(W j:LD)(k:Nat)(p x m:Int)(i:Nat)(l:LD),Runs Az 149 [.ptr 14800202 0,Bf E e S A] [By d b v g c X,hR 14850102 v 9 1 f] (aI L) [By W j k p x m,hR 14850102 i 9 1 l]/\R (.agg [aI L,aI 0,Gl,aB false]) [MZ h a,CJ W j k p x m,hR 14850102 i 9 1 l]) (∃(P:Bool)(Z y o:LD)(z:bA)(U:Bool)(G T q:LD)(F:Int),Runs Az 199 [Bf E e S A] [] (.tup [Bf P Z y o,aS z,Bf U G T q,aI F]) []/\Ae (F != 0) (R WN [MZ h a,Jk d b v g c,hR 14850102 v 9 1 f]) (∃(w:Int)(N Q:LD)(O:Nat)(r u M:Int)(I:Nat)(K:LD),Runs Az 149 [.ptr 14800202 0,Bf P Z y o] [By d b v g c X,hR 14850102 v 9 1 f] (aI w) [By N Q O r u M,hR 14850102 I 9 1 K]/\∃(C:Int)(t D:LD)(J:Nat)(B V H:Int)(Y:Nat)(s:LD),M0 U G T q N Q O r u M I K C t D J B V H Y s/\R (.agg [aI w,aI C,aS z,aB true]) [MZ h a,CJ t D J B V H,hR 14850102 Y 9 1 s]))
def iU:=λa b c d e f g h i j k l m n=>PLift.up (by delta Wv WN CJ Jk Fl By M0 Bf Gl MZ RE;exact rfl:Wv a b c d e f g h i j k l m n=_)
theorem oK (key:bA)(val:bA)(ba:LD)(no:LD)(v:Nat)(ro:Int)(ge:Int)(bad:Int)(pa:LD)(nl:Bool)(nk:LD)(nv:LD)(nc:LD)(R:AV->Heap->Prop):Vc Az c177.body (Af c177 [.ptr 11400305 0,(.agg [aB nl,aL nk,aL nv,aL nc])]) [(11400305,.box [.ptr 14800202 0,aS key,aS val]),(14800202,.box [aL ba,aL no,.row 14850102 v,aI ro,aI ge,aI bad]),(14850102,.row false false v 9 1 pa)] (AP c177 [(11400305,.box [.ptr 14800202 0,aS key,aS val]),(14800202,.box [aL ba,aL no,.row 14850102 v,aI ro,aI ge,aI bad]),(14850102,.row false false v 9 1 pa)] R)=Wv key val ba no v ro ge bad pa nl nk nv nc R:=by kernel_rfl
abbrev UW (i:Int)(k a:LD)(b:Nat)(n h o:Int)(d:Nat)(e l c:LD)(m:Nat)(f p j:Int)(g:Nat)(q:LD):=
 Runs Az 175 [.ptr 14800202 0,aI i] [By k a b n h o,hR 14850102 d 9 1 e] (.tup []) [By l c m f p j,hR 14850102 g 9 1 q]
abbrev oC (q:Bool)(s p y:LD)(B x:bA)(C u:LD)(v:Nat)(t r A:Int)(w:Nat)(D:LD)(z:AV->Heap->Prop):=
 ∃(m i:Int)(f:bA)(k:Bool)(l j:bA)(g o:LD)(a:Nat)(c d h:Int)(e:Nat)(b:LD),Runs Az 177 [.ptr 11400305 0,Bf q s p y] [Kj B x,By C u v t r A,hR 14850102 w 9 1 D] (.agg [aI m,aI i,aS f,aB k]) [Kj l j,By g o a c d h,hR 14850102 e 9 1 b]/\z (.agg [aI m,aI i,aS f,aB k]) [MZ l j,CJ g o a c d h,hR 14850102 e 9 1 b]
def Xc (d i:bA)(ba no:LD)(v:Nat)(ro ge d7:Int)(pa:LD)(b4 b9:Int)(R:AV->Heap->Prop):Prop:=
 ∃(c:Bool)(f g e Q N:LD)(M:Nat)(L P t:Int)(V:Nat)(O:LD),Runs Az 174 [.ptr 14800202 0,aI b4,aI b9] [By ba no v ro ge d7,hR 14850102 v 9 1 pa] (Im c f g e) [By Q N M L P t,hR 14850102 V 9 1 O]/\Ae (t != 0) (R WN [MZ d i,CJ Q N M L P t,hR 14850102 V 9 1 O]) (∃(q E:LD)(u:Nat)(x J z:Int)(F:Nat)(s:LD),UW b4 Q N M L P t V O q E u x J z F s/\Ae c (∃(l:Int)(b1:Bool),Runs Az 176 [Bf c f g e,aS d] [] (.tup [aI l,aB b1]) []/\Ae b1 (∃(o:Nat)(A:LD),Ks g o A/\(rn o/\rn 1)/\(0:Int)<=l/\Km l A/\I6 o/\OG l A/\o=o/\∃(Z a7:Int)(d1:bA)(d3:Bool)(d0 c5:bA)(a4 d2:LD)(a3:Nat)(d5 a6 d6:Int)(c3:Nat)(d4:LD),Runs Az 177 [.ptr 11400305 0,.agg [aB c,aL f,aL (List.set A (Int.toNat l) (D.str i)),aL e]] [Kj d i,By q E u x J z,hR 14850102 F 9 1 s] (.agg [aI Z,aI a7,aS d1,aB d3]) [Kj d0 c5,By a4 d2 a3 d5 a6 d6,hR 14850102 c3 9 1 d4]/\R (.agg [aI Z,aI a7,aS d1,aB d3]) [MZ d0 c5,CJ a4 d2 a3 d5 a6 d6,hR 14850102 c3 9 1 d4]) (∃(h:Nat)(b0:LD),Ks f h b0/\∃b5:LD,Runs Az 178 [.row 15151102 h,aI l,.row 15101108 0] [hR 15101108 0 9 1 [D.str d],hR 15151102 h 9 1 b0] (.row 15151102 (h+1)) [hR 15101108 0 9 1 [D.str d],hR 15151102 (h+1) 9 1 b5]/\∃(j:Nat)(X:LD),Ks g j X/\∃W:LD,Runs Az 178 [.row 15151202 j,aI l,.row 15101208 0] [hR 15101208 0 9 1 [D.str i],hR 15151202 j 9 1 X] (.row 15151202 (j+1)) [hR 15101208 0 9 1 [D.str i],hR 15151202 (j+1) 9 1 W]/\h+1=h+1/\j+1=j+1/\oC c b5 W e d i q E u x J z F s R)) (∃b:Int,Runs Az 179 [Bf c f g e,aS d] [] (aI b) []/\rn 1/\(0:Int)<=b/\∃c4:D,AW e b c4/\∃a1:Int,((D.cells c4)[0]?=some (D.int .i64 a1))/\∃(U T:Int)(S:bA)(a9:Bool)(y K:bA)(H w:LD)(B:Nat)(G r m:Int)(C:Nat)(I:LD),Runs Az 151 [.ptr 11400305 0,aI a1,F3 b9] [Kj d i,By q E u x J z,hR 14850102 F 9 1 s] (.agg [aI U,aI T,aS S,aB a9]) [Kj y K,By H w B G r m,hR 14850102 C 9 1 I]/\Ae (m != 0) (R WN [MZ y K,CJ H w B G r m,hR 14850102 C 9 1 I]) (∃(a:Nat)(p:LD),Runs Az 180 [aL e] [] (.row 18000001 a) [hR 18000001 a 3 1 p]/\(rn a/\rn 1)/\(0:Int)<=b/\Km b p/\I6 a/\OG b p/\Ae a9 (∃(k:Nat)(c2:LD),Ks f k c2/\∃c1:LD,Runs Az 178 [.row 15152102 k,aI b,.row 15102106 0] [hR 15102106 0 9 1 [D.str S],hR 15152102 k 9 1 c2] (.row 15152102 (k+1)) [hR 15102106 0 9 1 [D.str S],hR 15152102 (k+1) 9 1 c1]/\∃a2:LD,Runs Az 181 [.row 15151802 a,F3 b,.row 15102206 0] [hR 15102206 0 3 1 [D.int .i64 T],hR 15151802 a 3 1 (List.set p (Int.toNat b) (D.int .i64 U))] (.row 15151802 (a+1)) [hR 15102206 0 3 1 [D.int .i64 T],hR 15151802 (a+1) 3 1 a2]/\k+1=k+1/\a+1=a+1/\oC c c1 g a2 y K H w B G r m C I R) (a=a/\∃(b6 c6:Int)(b3:bA)(b8:Bool)(c9 b7:bA)(a0 c8:LD)(a5:Nat)(a8 c7 c0:Int)(Y:Nat)(b2:LD),Runs Az 177 [.ptr 11400305 0,.agg [aB c,aL f,aL g,aL (List.set p (Int.toNat b) (D.int .i64 U))]] [Kj y K,By H w B G r m,hR 14850102 C 9 1 I] (.agg [aI b6,aI c6,aS b3,aB b8]) [Kj c9 b7,By a0 c8 a5 a8 c7 c0,hR 14850102 Y 9 1 b2]/\R (.agg [aI b6,aI c6,aS b3,aB b8]) [MZ c9 b7,CJ a0 c8 a5 a8 c7 c0,hR 14850102 Y 9 1 b2]))))
def iC:=λa b c d e f g h i j k l=>PLift.up (by delta Xc WN oC CJ F3 I6 Km Fl By Im Kj Bf Ks MZ Gl OG AW UW;exact rfl:Xc a b c d e f g h i j k l=_)
theorem lM (key:bA)(val:bA)(ba:LD)(no:LD)(v:Nat)(ro:Int)(ge:Int)(bad:Int)(pa:LD)(block:Int)(deep:Int)(R:AV->Heap->Prop):Vc Az c151.body (Af c151 [.ptr 11400305 0,aI block,aI deep]) [(11400305,.box [.ptr 14800202 0,aS key,aS val]),(14800202,.box [aL ba,aL no,.row 14850102 v,aI ro,aI ge,aI bad]),(14850102,.row false false v 9 1 pa)] (AP c151 [(11400305,.box [.ptr 14800202 0,aS key,aS val]),(14800202,.box [aL ba,aL no,.row 14850102 v,aI ro,aI ge,aI bad]),(14850102,.row false false v 9 1 pa)] R)=Xc key val ba no v ro ge bad pa block deep R:=by kernel_rfl
abbrev Ir (a:bA):=
 hB 11600504 [.ptr 14800202 0,aS a]
def Wz (e:bA)(a g:LD)(v:Nat)(f d c:Int)(b:LD)(R:AV->Heap->Prop):Prop:=
 Ae (c==0) (R (.tup []) [Ir e,Jk a g v f d,hR 14850102 v 9 1 b]) (R (.tup []) [Ir e,CJ a g v f d c,hR 14850102 v 9 1 b])
def mO:=λa b c d e f g h i=>PLift.up (by delta Wz Ir CJ Jk;exact rfl:Wz a b c d e f g h i=_)
theorem rP (key:bA)(ba:LD)(no:LD)(v:Nat)(ro:Int)(ge:Int)(bad:Int)(pa:LD)(R:AV->Heap->Prop):Vc Az c205.body (Af c205 [.ptr 11600504 0]) [(11600504,.box [.ptr 14800202 0,aS key]),(14800202,.box [aL ba,aL no,.row 14850102 v,aI ro,aI ge,aI bad]),(14850102,.row false false v 9 1 pa)] (AP c205 [(11600504,.box [.ptr 14800202 0,aS key]),(14800202,.box [aL ba,aL no,.row 14850102 v,aI ro,aI ge,aI bad]),(14850102,.row false false v 9 1 pa)] R)=Wz key ba no v ro ge bad pa R:=by kernel_rfl
def TE (f:bA)(ba no:LD)(v:Nat)(ro ge c9:Int)(pa:LD)(a7 M:Int)(R:AV->Heap->Prop):Prop:=
 ∃(c:Bool)(i e d O I:LD)(G:Nat)(F L q:Int)(S:Nat)(J:LD),Runs Az 174 [.ptr 14800202 0,aI a7,aI M] [By ba no v ro ge c9,hR 14850102 v 9 1 pa] (Im c i e d) [By O I G F L q,hR 14850102 S 9 1 J]/\Ae (q != 0) (R F5 [Ir f,CJ O I G F L q,hR 14850102 S 9 1 J]) (∃(k y:LD)(r:Nat)(t A N:Int)(z:Nat)(l:LD),UW a7 O I G F L q S J k y r t A N z l/\Ae c (∃(c1:Int)(a6:Bool),Runs Az 176 [Bf c i e d,aS f] [] (.tup [aI c1,aB a6]) []/\Ae (Bool.not a6) (R F5 [Ir f,hB 14800202 [aL k,aL y,.row 14850102 r,aI t,aI A,aI 80],hR 14850102 z 9 1 l]) (∃(a4:Bool)(b3 X a2:LD),Runs Az 182 [Bf c i e d,aI c1] [] (Bf a4 b3 X a2) []/\R (KY a4 b3 X a2) [Ir f,CJ k y r t A N,hR 14850102 z 9 1 l])) (∃b:Int,Runs Az 179 [Bf c i e d,aS f] [] (aI b) []/\rn 1/\(0:Int)<=b/\∃b9:D,AW d b b9/\∃b7:Int,((D.cells b9)[0]?=some (D.int .i64 b7))/\∃(P:Bool)(m Q K:LD)(C:bA)(p E:LD)(w:Nat)(B u h:Int)(s:Nat)(x:LD),Runs Az 152 [.ptr 11600504 0,aI b7,F3 M] [Mg f,By k y r t A N,hR 14850102 z 9 1 l] (Bf P m Q K) [Mg C,By p E w B u h,hR 14850102 s 9 1 x]/\Ae (h != 0) (R F5 [Ir C,CJ p E w B u h,hR 14850102 s 9 1 x]) (∃(g:Nat)(H:LD),Ks i g H/\∃(a:Nat)(j:LD),Runs Az 180 [aL d] [] (.row 18000001 a) [hR 18000001 a 3 1 j]/\Ae (decide ((m.length:Int)>=4)) (∃(b6:Int)(a5 c3:LD)(a1:Nat)(Z b0 b1:Int)(U:Nat)(V:LD),M0 P m Q K p E w B u h s x b6 a5 c3 a1 Z b0 b1 U V/\(rn a/\rn 1)/\(0:Int)<=b/\Km b j/\I6 a/\OG b j/\g=g/\a=a/\R (.agg [aB c,aL H,aL e,aL (List.set j (Int.toNat b) (D.int .i64 b6))]) [Ir C,CJ a5 c3 a1 Z b0 b1,hR 14850102 U 9 1 V]) (∃(a0:Bool)(W T a8:LD)(b4:Bool)(Y:bA)(c0 b8:LD)(b5:Nat)(a3 b2 c4:Int)(c2:Nat)(a9:LD)(c7:Nat)(c8:LD)(c5:Nat)(c6:LD),Runs Az 183 [.ptr 11600504 0,.agg [aB c,.row 15251502 g,aL e,.row 15251505 a],aI b,Bf P m Q K,aI M] [Mg C,By p E w B u h,hR 14850102 s 9 1 x,hR 15251502 g 9 1 H,hR 15251505 a 3 1 j] (Bf a0 W T a8) [Mg Y,By c0 b8 b5 a3 b2 c4,hR 14850102 c2 9 1 a9,(15251502,.row b4 false c7 9 1 c8),(15251505,.row b4 false c5 3 1 c6)]/\R (KY a0 W T a8) [Ir Y,CJ c0 b8 b5 a3 b2 c4,hR 14850102 c2 9 1 a9]))))
def JS:=λa b c d e f g h i j k=>PLift.up (by delta TE KY Km CJ I6 F3 Im By M0 Bf Ks Ir OG AW Mg F5 UW;exact rfl:TE a b c d e f g h i j k=_)
theorem ZB (key:bA)(ba:LD)(no:LD)(v:Nat)(ro:Int)(ge:Int)(bad:Int)(pa:LD)(block:Int)(deep:Int)(R:AV->Heap->Prop):Vc Az c152.body (Af c152 [.ptr 11600504 0,aI block,aI deep]) [(11600504,.box [.ptr 14800202 0,aS key]),(14800202,.box [aL ba,aL no,.row 14850102 v,aI ro,aI ge,aI bad]),(14850102,.row false false v 9 1 pa)] (AP c152 [(11600504,.box [.ptr 14800202 0,aS key]),(14800202,.box [aL ba,aL no,.row 14850102 v,aI ro,aI ge,aI bad]),(14850102,.row false false v 9 1 pa)] R)=TE key ba no v ro ge bad pa block deep R:=by kernel_rfl
abbrev Xv (k:bA)(m j:LD)(s:Nat)(u r v:Int)(o:Nat)(p:LD)(n:AV->Heap->Prop)(l:Nat)(t:LD)(q:Nat)(w:LD):=
 ∃(h:bA)(i g:LD)(a:Nat)(c b d:Int)(f:Nat)(e:LD),Runs Az 205 [.ptr 11600504 0] [Mg k,By m j s u r v,hR 14850102 o 9 1 p] (.tup []) [Mg h,By i g a c b d,hR 14850102 f 9 1 e]/\n F5 [Ir h,CJ i g a c b d,hR 14850102 f 9 1 e,hR 15251502 l 9 1 t,hR 15251505 q 3 1 w]
abbrev Zc (b:LD)(c:Int)(a:D):=
 (b[Int.toNat (Ck true (w6 (c-1)) 0)]?=some a)
abbrev mW (a:Int):=
 aI (w6 (Ck true (w6 (a-1)) 0+1))
abbrev rR (b:Nat)(a:Int)(d:LD)(p3:Bool)(p4 Y p6:LD)(U:Bool)(V T Q a1 W:LD)(a2:Nat)(a0 X N:Int)(O:Nat)(S:LD)(c:Nat)(e:LD)(L:AV->Heap->Prop)(Z:Bool)(P:LD)(M:bA):=
 (rn b/\rn 1)/\(0:Int)<=Ck true (w6 (a-1)) 0/\((Ck true (w6 (a-1)) 0):Int)<(d.length:Int)/\(rn b/\rn 1)/\∃u:D,Zc d a u/\∃B:bA,Ci u B/\∃(A:Bool)(s C j:LD)(h:bA)(G:Bool)(K t E:LD),Runs Az 208 [Bf p3 p4 Y p6,aS B,Bf U V T Q] [] (.tup [Bf A s C j,aS h,Bf G K t E]) []/\∃(f:Int)(w v:LD)(H:Nat)(J I F:Int)(q:Nat)(l:LD),M0 A s C j a1 W a2 a0 X N O S f w v H J I F q l/\(rn c/\rn 1)/\(0:Int)<=Ck true (w6 (a-1)) 0/\((Ck true (w6 (a-1)) 0):Int)<(e.length:Int)/\I6 c/\((Int.toNat (Ck true (w6 (a-1)) 0)):Nat)<List.length e/\∃(g:Int)(i m:LD)(y:Nat)(x k z:Int)(p:Nat)(r:LD),M0 G K t E w v H J I F q l g i m y x k z p r/\(rn c/\rn 1)/\(0:Int)<=w6 (Ck true (w6 (a-1)) 0+1)/\((w6 (Ck true (w6 (a-1)) 0+1)):Int)<((List.set e (Int.toNat (Ck true (w6 (a-1)) 0)) (D.int .i64 f)).length:Int)/\I6 c/\((Int.toNat (w6 (Ck true (w6 (a-1)) 0+1))):Nat)<List.length (List.set e (Int.toNat (Ck true (w6 (a-1)) 0)) (D.int .i64 f))/\(rn b/\rn 1)/\(0:Int)<=Ck true (w6 (a-1)) 0/\((Ck true (w6 (a-1)) 0):Int)<(d.length:Int)/\I6 b/\((Int.toNat (Ck true (w6 (a-1)) 0)):Nat)<List.length d/\b=b/\c=c/\L (.agg [aB Z,aL (List.set d (Int.toNat (Ck true (w6 (a-1)) 0)) (D.str h)),aL P,aL (List.set (List.set e (Int.toNat (Ck true (w6 (a-1)) 0)) (D.int .i64 f)) (Int.toNat (w6 (Ck true (w6 (a-1)) 0+1))) (D.int .i64 g))]) [Ir M,CJ i m y x k z,hR 14850102 p 9 1 r,(15251502,.row true false b 9 1 (List.set d (Int.toNat (Ck true (w6 (a-1)) 0)) (D.str h))),(15251505,.row true false c 3 1 (List.set (List.set e (Int.toNat (Ck true (w6 (a-1)) 0)) (D.int .i64 f)) (Int.toNat (w6 (Ck true (w6 (a-1)) 0+1))) (D.int .i64 g)))]
abbrev lH (b:Nat)(a:Int)(d:LD)(v:Bool)(z t A:LD)(o:Bool)(p n l y q:LD)(B:Nat)(x r h:Int)(j:Nat)(m:LD)(c:Nat)(e:LD)(f:AV->Heap->Prop)(u:Bool)(k:LD)(g:bA):=
 (rn b/\rn 1)/\(0:Int)<=Ck true (w6 (a-1)) 0/\((Ck true (w6 (a-1)) 0):Int)<(d.length:Int)/\(rn b/\rn 1)/\∃I:D,Zc d a I/\∃G:bA,Ci I G/\∃(Q:Bool)(s J O:LD)(P:Int),Runs Az 206 [Bf v z t A,aS G,Bf o p n l] [] (.tup [Bf Q s J O,aI P]) []/\Ae (P==0) (Ae (RE s) (∃(N:Int)(L S:LD)(C:Nat)(F H M:Int)(K:Nat)(E:LD),M0 Q s J O y q B x r h j m N L S C F H M K E/\(rn c/\rn 1)/\(0:Int)<=Ck true (w6 (a-1)) 0/\((Ck true (w6 (a-1)) 0):Int)<(e.length:Int)/\I6 c/\((Int.toNat (Ck true (w6 (a-1)) 0)):Nat)<List.length e/\∃w:LD,Runs Az 204 [.row 15251502 b,aI (Ck true (w6 (a-1)) 0),mW a] [hR 15251502 b 9 1 d] (.row 15251502 (b+1)) [hR 15251502 (b+1) 9 1 w]/\∃i:LD,Runs Az 207 [.row 15251505 c,mW a,aI (w6 (Ck true (w6 (a-1)) 0+2))] [hR 15251505 c 3 1 (List.set e (Int.toNat (Ck true (w6 (a-1)) 0)) (D.int .i64 N))] (.row 15251505 (c+1)) [hR 15251505 (c+1) 3 1 i]/\b+1=b+1/\c+1=c+1/\f (KY u w k i) [Ir g,CJ L S C F H M,hR 14850102 K 9 1 E,(15251502,.row true false (b+1) 9 1 w),(15251505,.row true false (c+1) 3 1 i)]) (rR b a d v z t A o p n l y q B x r h j m c e f u k g)) (rR b a d v z t A o p n l y q B x r h j m c e f u k g)
abbrev pE (B:D)(C A:LD)(H:Nat)(I G J:Int)(E:Nat)(F:LD)(a:Int)(q:Nat)(y:LD)(t:Bool)(z x u:LD)(m:Bool)(o r n:LD)(j:Nat)(k:LD)(v:AV->Heap->Prop)(p:Bool)(l:LD)(s:bA):=
 ∃w:Int,((D.cells B)[0]?=some (D.int .i64 w))/\∃(e i:LD)(c:Nat)(g b f:Int)(h:Nat)(d:LD),UW w C A H I G J E F e i c g b f h d/\Ae (Ck true (w6 (a-1)) 0==a) (lH q a y t z x u m o r n e i c g b f h d j k v p l s) (lH q a y m o r n t z x u e i c g b f h d j k v p l s)
def Zz (e:bA)(O H:LD)(v:Nat)(Z N Y:Int)(W:LD)(a b:Nat)(P:Bool)(d T c:LD)(i:Int)(o:Bool)(I E F:LD)(B:Int)(R:AV->Heap->Prop):Prop:=
 Ae (Ck true (w6 (i-1)) 0==i) ((rn b/\rn 1)/\(0:Int)<=w6 (i+1)/\((w6 (i+1)):Int)<(c.length:Int)/\(rn b/\rn 1)/\∃S:D,(c[Int.toNat (w6 (i+1))]?=some S)/\∃X:Int,((D.cells S)[0]?=some (D.int .i64 X))/\∃(y:Bool)(A C K k h:LD)(j:Nat)(t x g:Int)(l:Nat)(n:LD),Runs Az 174 [.ptr 14800202 0,aI X,F3 B] [By O H v Z N Y,hR 14850102 v 9 1 W] (Im y A C K) [By k h j t x g,hR 14850102 l 9 1 n]/\Ae (g != 0) (Xv e k h j t x g l n R a d b c) (Ae (Bool.not (y==o)) (Xv e k h j t x g l n R a d b c) ((rn b/\rn 1)/\(0:Int)<=w6 (i+1)/\((w6 (i+1)):Int)<(c.length:Int)/\(rn b/\rn 1)/\∃M:D,(c[Int.toNat (w6 (i+1))]?=some M)/\pE M k h j t x g l n i a d o I E F y A C K b c R P T e))) ((rn b/\rn 1)/\(0:Int)<=Ck true (w6 (i-1)) 0/\((Ck true (w6 (i-1)) 0):Int)<(c.length:Int)/\(rn b/\rn 1)/\∃G:D,Zc c i G/\∃U:Int,((D.cells G)[0]?=some (D.int .i64 U))/\∃(z:Bool)(L Q V s r:LD)(m:Nat)(u p f:Int)(w:Nat)(q:LD),Runs Az 174 [.ptr 14800202 0,aI U,F3 B] [By O H v Z N Y,hR 14850102 v 9 1 W] (Im z L Q V) [By s r m u p f,hR 14850102 w 9 1 q]/\Ae (f != 0) (Xv e s r m u p f w q R a d b c) (Ae (Bool.not (z==o)) (Xv e s r m u p f w q R a d b c) ((rn b/\rn 1)/\(0:Int)<=Ck true (w6 (i-1)) 0/\((Ck true (w6 (i-1)) 0):Int)<(c.length:Int)/\(rn b/\rn 1)/\∃J:D,Zc c i J/\pE J s r m u p f w q i a d o I E F z L Q V b c R P T e)))
def iV:=λa b c d e f g h i j k l m n o p q r s t u=>PLift.up (by delta Zz KY mW By Bf UW F5 CJ pE Mg rR I6 M0 Ir Ci RE lH F3 Zc Xv Im;exact rfl:Zz a b c d e f g h i j k l m n o p q r s t u=_)
theorem pY (key:bA)(ba:LD)(no:LD)(v:Nat)(ro:Int)(ge:Int)(bad:Int)(pa:LD)(a:Nat)(b:Nat)(nl:Bool)(nk:LD)(nv:LD)(nc:LD)(i:Int)(kl:Bool)(kk:LD)(kv:LD)(kc:LD)(deep:Int)(R:AV->Heap->Prop):Vc Az c183.body (Af c183 [.ptr 11600504 0,(.agg [aB nl,.row 15251502 a,aL nv,.row 15251505 b]),aI i,(.agg [aB kl,aL kk,aL kv,aL kc]),aI deep]) [(11600504,.box [.ptr 14800202 0,aS key]),(14800202,.box [aL ba,aL no,.row 14850102 v,aI ro,aI ge,aI bad]),(14850102,.row false false v 9 1 pa),(15251502,.row false false a 9 1 nk),(15251505,.row false false b 3 1 nc)] (AP c183 [(11600504,.box [.ptr 14800202 0,aS key]),(14800202,.box [aL ba,aL no,.row 14850102 v,aI ro,aI ge,aI bad]),(14850102,.row false false v 9 1 pa),(15251502,.row false false a 9 1 nk),(15251505,.row false false b 3 1 nc)] R)=Zz key ba no v ro ge bad pa a b nl nk nv nc i kl kk kv kc deep R:=by kernel_rfl
def fQ (s c:bA)(R:AV->Heap->Prop):Prop:=
 ∃(b:bA)(d:Int),Runs Az 80 [aS s] [] (.tup [aS b,aI d]) []/\0=0/\∃a:bA,Runs Az 83 [aL [D.str c,D.str b]] [] (aS a) []/\R (.tup []) [hB 17300307 [aS a]]
theorem jB (s:bA)(out:bA)(R:AV->Heap->Prop):Vc Az c196.body (Af c196 [aS s,.ptr 17300307 0]) [(17300307,.box [aS out])] (AP c196 [(17300307,.box [aS out])] R)=fQ s out R:=by kernel_rfl
abbrev SG (a:Int):=
 hB 7600102 [aI a]
def WU (a:LD)(i:Int)(R:AV->Heap->Prop):Prop:=
 ∃b:Bool,Runs Az 125 [aL a,aI i] [] (aB b) []/\R (.n (.bool b)) [SG i]
def pC:=λa b c=>PLift.up (by delta WU SG;exact rfl:WU a b c=_)
theorem nP (a:LD)(i:Int)(R:AV->Heap->Prop):Vc Az c124.body (Af c124 [aL a,.ptr 7600102 0]) [(7600102,.box [aI i])] (AP c124 [(7600102,.box [aI i])] R)=WU a i R:=by kernel_rfl
def WX (l:LD)(i:Int)(R:AV->Heap->Prop):Prop:=
 ∃a:Int,Runs Az 158 [aL l,.fn 124 [.ptr 7600102 0]] [hB 7600102 [aI i]] (aI a) [hB 7600102 [aI i]]/\R (Rw a) [SG i]
def qP:=λa b c=>PLift.up (by delta WX SG Rw;exact rfl:WX a b c=_)
theorem lT (l:LD)(i:Int)(R:AV->Heap->Prop):Vc Az c123.body (Af c123 [aL l,.fn 124 [.ptr 7600102 0]]) [(7600102,.box [aI i])] (AP c123 [(7600102,.box [aI i])] R)=WX l i R:=by kernel_rfl
def Ws (l:LD)(i:Int)(R:AV->Heap->Prop):Prop:=
 ∃(b:Int->Prop)(e:Int->Nat),(rh [hB 7600102 [aI i]]/\b 0)/\∀a:Int,b a->∀g:Nat->AV,Ae (BK a l) (rn 1/\(0:Int)<=a/\∃d:D,AW l a d/\∃f:LD,Lx d f/\∃c:Bool,Runs Az 124 [aL f,.ptr 7600102 0] [hB 7600102 [aI i]] (aB c) [hB 7600102 [aI i]]/\Ae c (R (.n (.int .i64 a)) [SG i]) (rq (aL l)/\rq (.fn 124 [.ptr 7600102 0])/\rq (aI (l.length:Int))/\rh [hB 7600102 [aI i]]/\b (w6 (a+1))/\((e (w6 (a+1))):Nat)<e a)) (R (.n (.int .i64 (-1))) [SG i])
def lL:=λa b c=>PLift.up (by delta Ws Lx AW SG BK;exact rfl:Ws a b c=_)
theorem rL (l:LD)(i:Int)(R:AV->Heap->Prop):Vc Az c158.body (Af c158 [aL l,.fn 124 [.ptr 7600102 0]]) [(7600102,.box [aI i])] (AP c158 [(7600102,.box [aI i])] R)=Ws l i R:=by kernel_rfl
end Go.Proofs.YtegndijbpiccgaaGreatDoor.M
