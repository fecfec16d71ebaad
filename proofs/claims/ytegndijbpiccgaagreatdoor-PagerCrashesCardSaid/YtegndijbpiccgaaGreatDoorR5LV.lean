import Derived.Test.YtegndijbpiccgaaGreatDoorR5L
import Derived.Test.YtegndijbpiccgaaGreatDoorR5FunB
namespace Go.Proofs.YtegndijbpiccgaaGreatDoor.M
set_option linter.unusedVariables false
set_option linter.unusedSimpArgs false
open Go Go.Mir
abbrev AU (c d a:LD)(b e:Int):List AV:=
 [aL c,aL d,aL a,aI b,aI e]
abbrev IX:AV:=
 .agg [aB false,.n (D.sl 1 []),.n (D.sl 1 []),.n (D.sl 1 [])]
abbrev Im (b:Bool)(d a c:LD):AV:=
 .agg [aB b,.n (D.sl 1 d),.n (D.sl 1 a),.n (D.sl 1 c)]
abbrev U7 (b:Bool)(d a c:LD):AV:=
 .agg [aB b,.n (D.sl 1 d),.n (D.sl 1 a),.n (D.sl 1 c)]
def jH (f c k:LD)(h g u:Int)(w:Bool)(R:AV->Prop):Prop:=
 ∃e:Bool,Runs AD 67 [.agg (AU f c k h g)] [] (aB e) []/\Ae (Bool.not e) (R (.tup [IX,aI 1])) (∃(j:Bool)(a b d:LD)(i:Bool)(o l m:LD)(r y:Int)(v:bA)(q x:Int)(t:bA)(p s:Bool),Runs AD 194 [.ptr 17100302 0,aI u,aB w] [hB 17100302 [aL f,aL c,aL k,aI h,aI g,aS Fl,aI 0,aI 0,.n D.nil,aS Fl,aB false,aB false]] (.tup [Im j a b d,aB i]) [hB 17100302 [aL o,aL l,aL m,aI r,aI y,aS v,aI q,aI x,.n D.nil,aS t,aB p,aB s]]/\Ae (Bool.not i) (R (.tup [IX,aI 81])) (R (.tup [U7 j a b d,aI 0])))
def AAN:=λa b c d e f g h=>PLift.up (by delta jH Fl U7 IX AU Im;exact rfl:jH a b c d e f g h=_)
theorem yY e d g c a b f R:Vc AD c171.body (Af c171 [(.agg [aL e,aL d,aL g,aI c,aI a]),aI b,aB f]) [] (Av c171 R)=jH e d g c a b f R:=by kernel_rfl
abbrev iJ (b:LD)(c:AV->Prop):=
 ∃a:Bool,Runs AD 111 [aL b,.fn 112 []] [] (aB a) []/\c (.n (.bool (Bool.not a)))
def V67 (f a b:LD)(c d:Int)(R:AV->Prop):Prop:=
 ∃e:Bool,Runs AD 75 [.agg [aL f,aL a]] [] (aB e) []/\Ae (Bool.not e) (R (.n (.bool false))) (Ae (HX b a) (R (.n (.bool false))) (Ae (decide (d<1)) (R (.n (.bool false))) (Ae (decide (d > 1099511627776)) (R (.n (.bool false))) (Ae (c != 0) (Ae (decide (c<10)) (R (.n (.bool false))) (Ae (Lv c a) (R (.n (.bool false))) (iJ b R))) (iJ b R)))))
def AEm:=λa b c d e f=>PLift.up (by delta V67 HX iJ Lv;exact rfl:V67 a b c d e f=_)
theorem AFu d c e b a R:Vc AD c67.body (Af c67 [(.agg [aL d,aL c,aL e,aI b,aI a])]) [] (Av c67 R)=V67 d c e b a R:=by kernel_rfl
abbrev F5:AV:=
 .agg [aB false,aL [],aL [],aL []]
abbrev Pc (a:AV->Prop):=
 a (.tup [F5,aB false])
abbrev Dt (a:D)(b:Bool):=
 ((D.cells a)[0]?=some (D.bool b))
abbrev Bf (b:Bool)(d a c:LD):AV:=
 .agg [aB b,aL d,aL a,aL c]
abbrev KY (b:Bool)(d a c:LD):AV:=
 .agg [aB b,aL d,aL a,aL c]
def oQ (u k r:LD)(v s a:Int)(t:Bool)(R:AV->Prop):Prop:=
 Ae (decide (a<10)) (Pc R) (Ae (Lv a k) (Pc R) (Ae (Lv a r) (Pc R) (rn 1/\(0:Int)<=a/\∃m:D,AW k a m/\∃p:Bool,Dt m p/\Ae (Bool.not p) (Pc R) (rn 1/\(0:Int)<=a/\∃g:D,AW r a g/\∃h:bA,Ci g h/\∃(l o:Int)(i:bA)(f:Int),Runs AD 95 [aS h] [] (VU l o i f) []/\Ae (f != 0) (Pc R) (Ae (decide (o > s)) (Pc R) (∃(b:Bool)(c e d:LD)(j:Int),Runs AD 153 [aI l,aS i] [] (.tup [Bf b c e d,aI j]) []/\Ae (j != 0) (Pc R) (∃q:Bool,Runs AD 154 [Bf b c e d,aB t] [] (aB q) []/\Ae (Bool.not q) (Pc R) (R (.tup [KY b c e d,aB true])))))))))
def yA:=λa b c d e f g h=>PLift.up (by delta oQ KY Pc VU Bf Ci Dt AW F5 Lv;exact rfl:oQ a b c d e f g h=_)
theorem AA2 e d g c a b f R:Vc AD c117.body (Af c117 [(.agg [aL e,aL d,aL g,aI c,aI a]),aI b,aB f]) [] (Av c117 R)=oQ e d g c a b f R:=by kernel_rfl
abbrev K0 (a:Int):AV:=
 aI (w6 (a+1))
def jQ (b:Bool)(e d g:LD)(f:bA)(R:AV->Prop):Prop:=
 Ae b (R (.n (.int .i64 0))) (∃(a:Int)(c:Bool),Runs AD 176 [Bf b e d g,aS f] [] (.tup [aI a,aB c]) []/\Ae c (R (K0 a)) (R (.n (.int .i64 a))))
def AB1:=λa b c d e f=>PLift.up (by delta jQ K0 Bf;exact rfl:jQ a b c d e f=_)
theorem ABo d c e b a R:Vc AD c179.body (Af c179 [(.agg [aB d,aL c,aL e,aL b]),aS a]) [] (Av c179 R)=jQ d c e b a R:=by kernel_rfl
def rG (h:Bool)(b i g:LD)(e:bA)(R:AV->Prop):Prop:=
 ∃f:Bool,Runs AD 197 [Bf h b i g] [] (aB f) []/\Ae (Bool.not f) (R (.tup [aI 0,aB false])) (∃a:Int,Runs AD 198 [aL b,aS e] [] (aI a) []/\Ae (BK a b) (rn 1/\(0:Int)<=a/\∃c:D,AW b a c/\∃d:bA,Ci c d/\R (.tup [aI a,aB (KM d e)])) (R (.tup [aI a,aB false])))
def vL:=λa b c d e f=>PLift.up (by delta rG KM Bf Ci AW BK;exact rfl:rG a b c d e f=_)
theorem AB5 d c e b a R:Vc AD c176.body (Af c176 [(.agg [aB d,aL c,aL e,aL b]),aS a]) [] (Av c176 R)=rG d c e b a R:=by kernel_rfl
abbrev Xf (a:LD):=
 (10:Int)<=(a.length:Int)
abbrev jY (a:LD):=
 D.sl 1 (List.drop 0 (List.take (Int.toNat 10) a))
def V75 (b a:LD)(R:AV->Prop):Prop:=
 Ae (HX b a) (R (.n (.bool false))) (Ae (decide ((a.length:Int)<24)) (R (.n (.bool false))) (Ae (uV a) (R (.n (.bool false))) (rn 1/\(0:Int)<=10/\Xf b/\rn 1/\(0:Int)<=10/\Xf a/\0=0/\∃c:Int,Runs AD 121 [aL [jY b,jY a]] [] (aI c) []/\R (.n (.bool (c==10))))))
def ACy:=λa b c=>PLift.up (by delta V75 HX Xf uV jY;exact rfl:V75 a b c=_)
theorem AFV a b R:Vc AD c75.body (Af c75 [(.agg [aL a,aL b])]) [] (Av c75 R)=V75 a b R:=by kernel_rfl
abbrev MN:=
 Unit×Unit×Unit
abbrev ZD:=
 Bool×Unit×MN
abbrev Kq:=
 Bool×Nat×Nat×Nat×Unit
abbrev eW:=
 Kq->Nat×LD->Nat×LD->Nat×LD->Prop
abbrev Z4:=
 Kq->Nat×LD->Nat×LD->Nat×LD->Nat
abbrev UN:List AV:=
 [aB false,.n D.nil,.n D.nil,.n D.nil]
abbrev Qp (a:AV->Prop)(b:Int):=
 a (.tup [F5,aI b])
abbrev P6 (a:Int):=
 rn 1\/@Eq LD [D.int .i64 a] []
abbrev UU (a:(Nat×LD))(b:Kq):=
 (((Prod.fst a):Nat)=b.2.2.2.1/\rn 3)/\rn 1
abbrev Jn (a:(Nat×LD)):=
 List.length (Prod.snd a)
abbrev Y9 (c:bA)(d:Int)(a:bA)(b e:Int):=
 Runs AD 184 [aS c,aI d] [] (.tup [aS a,aI b,aI e]) []
abbrev Ux (a:(Nat×LD))(b:Kq):=
 (((Prod.fst a):Nat)=b.2.1/\rn 9)/\rn 1
abbrev Wf (a:ZD):=
 hB 15300000 [aB a.1,.n D.nil,.n D.nil,.n D.nil]
abbrev ZH (a:AV->Prop):=
 a (.tup [F5,aI 4])
abbrev UB (a:Kq):=
 a.2.2.2.1+1=a.2.2.2.1+1
abbrev qL (f:Int)(c:AV->Prop)(h:Int)(i:bA)(d:(Nat×LD))(a:Kq)(e b:(Nat×LD)):=
 Ae (f != 0) (Qp c f) (Ae (h != (((ByteArray.size i):Nat):Int)) (ZH c) (Prod.fst d=a.2.1/\Prod.fst e=a.2.2.1/\Prod.fst b=a.2.2.2.1/\∃g:Bool,Runs AD 154 [.agg [aB a.1,aL (Prod.snd d),aL (Prod.snd e),aL (Prod.snd b)],aB true] [] (aB g) []/\Ae (Bool.not g) (ZH c) (Prod.fst d=a.2.1/\Prod.fst e=a.2.2.1/\Prod.fst b=a.2.2.2.1/\c (.tup [.agg [aB a.1,aL (Prod.snd d),aL (Prod.snd e),aL (Prod.snd b)],aI 0]))))
abbrev oN (m i:Int)(g:bA)(h:Int)(d:(Nat×LD))(a:Kq)(e:AV->Prop)(b c:(Nat×LD)):=
 Ae (m==2) (Ae (i==0) (∃(f k j:Int),Runs AD 139 [aS g,aI h,aI 2] [] (MG f k j) []/\rn 0/\P6 f/\UU d a/\(((Jn d+List.length [D.int .i64 f])*8):Nat)<=140737488355328/\Ae (j != 0) (Qp e j) (Ae (k != (((ByteArray.size g):Nat):Int)) (ZH e) (Prod.fst b=a.2.1/\Prod.fst c=a.2.2.1/\UB a/\∃l:Bool,Runs AD 154 [.agg [aB a.1,aL (Prod.snd b),aL (Prod.snd c),aL (Prod.snd d++[D.int .i64 f])],aB true] [] (aB l) []/\Ae (Bool.not l) (ZH e) (Prod.fst b=a.2.1/\Prod.fst c=a.2.2.1/\UB a/\e (.tup [.agg [aB a.1,aL (Prod.snd b),aL (Prod.snd c),aL (Prod.snd d++[D.int .i64 f])],aI 0]))))) (qL i e h g b a c d)) (qL i e h g b a c d)
abbrev qN (g:bA)(h:Int)(o:AV->Prop):=
 ∃(r E m:Int),Runs AD 139 [aS g,aI 0,aI 1] [] (MG r E m) []/\∃(p:Int->Int->ZD->eW)(n:Int->Int->ZD->Z4),(rh [hB 15300000 UN,hB 15300303 [aB (h==1),.row 15301704 0,.row 15302304 0,.row 15301204 0],(15301204,.row false true 0 3 1 []),(15301704,.row false true 0 9 1 []),(15302304,.row false true 0 9 1 [])]/\p E 0 (false,(),(),(),()) (h==1,0,0,0,()) (0,[]) (0,[]) (0,[]))/\∀(i f:Int)(e:ZD)(a:Kq)(d b c:Nat×LD),p i f e a d b c->∀F:Nat->AV,Ae (decide (f<r)) (Ae (m==0) (Ae (h==2) (∃(j C B:Int),Runs AD 139 [aS g,aI i,aI 2] [] (MG j C B) []/\Ae (B != 0) (Qp o B) (rn 0/\P6 j/\UU c a/\(((Jn c+List.length [D.int .i64 j])*8):Nat)<=140737488355328/\∃(l:bA)(t w:Int),Y9 g C l t w/\Ae (w != 0) (Qp o w) (rn 0/\Jz l/\Ux d a/\Jv d l/\Ae (h==1) (∃(q:bA)(z A:Int),Y9 g t q z A/\Ae (A != 0) (Qp o A) (rn 0/\Jz q/\((((Prod.fst b):Nat)=a.2.2.1/\rn 9)/\rn 1)/\Jv b q/\rq (aI h)/\rq (aS g)/\rq (.ptr 15300000 0)/\rq (.ptr 15300303 0)/\rq (aI r)/\rq (aI m)/\rh [Wf e,hB 15300303 [aB a.1,.row 15301704 (a.2.1+1),.row 15302304 (a.2.2.1+1),.row 15301204 (a.2.2.2.1+1)],(15301204,.row false true (a.2.2.2.1+1) 3 1 (Prod.snd c++[D.int .i64 j])),(15301704,.row false true (a.2.1+1) 9 1 (Cn d l)),(15302304,.row false true (a.2.2.1+1) 9 1 (Cn b q))]/\p z (w6 (f+1)) (e.1,(),(),(),()) (a.1,a.2.1+1,a.2.2.1+1,a.2.2.2.1+1,()) (a.2.1+1,Cn d l) (a.2.2.1+1,Cn b q) (a.2.2.2.1+1,Prod.snd c++[D.int .i64 j])/\((n z (w6 (f+1)) (e.1,(),(),(),()) (a.1,a.2.1+1,a.2.2.1+1,a.2.2.2.1+1,()) (a.2.1+1,Cn d l) (a.2.2.1+1,Cn b q) (a.2.2.2.1+1,Prod.snd c++[D.int .i64 j])):Nat)<n i f e a d b c)) (rq (aI h)/\rq (aS g)/\rq (.ptr 15300000 0)/\rq (.ptr 15300303 0)/\rq (aI r)/\rq (aI m)/\rh [Wf e,hB 15300303 [aB a.1,.row 15301704 (a.2.1+1),.row 15302304 a.2.2.1,.row 15301204 (a.2.2.2.1+1)],(15301204,.row false true (a.2.2.2.1+1) 3 1 (Prod.snd c++[D.int .i64 j])),(15301704,.row false true (a.2.1+1) 9 1 (Cn d l)),(15302304,.row false true (Prod.fst b) 9 1 (Prod.snd b))]/\p t (w6 (f+1)) (e.1,(),(),(),()) (a.1,a.2.1+1,a.2.2.1,a.2.2.2.1+1,()) (a.2.1+1,Cn d l) (Prod.fst b,Prod.snd b) (a.2.2.2.1+1,Prod.snd c++[D.int .i64 j])/\((n t (w6 (f+1)) (e.1,(),(),(),()) (a.1,a.2.1+1,a.2.2.1,a.2.2.2.1+1,()) (a.2.1+1,Cn d l) (Prod.fst b,Prod.snd b) (a.2.2.2.1+1,Prod.snd c++[D.int .i64 j])):Nat)<n i f e a d b c)))) (∃(k:bA)(u v:Int),Y9 g i k u v/\Ae (v != 0) (Qp o v) (rn 0/\Jz k/\Ux d a/\Jv d k/\Ae (h==1) (∃(s:bA)(x y:Int),Y9 g u s x y/\Ae (y != 0) (Qp o y) (rn 0/\Jz s/\((((Prod.fst b):Nat)=a.2.2.1/\rn 9)/\rn 1)/\Jv b s/\rq (aI h)/\rq (aS g)/\rq (.ptr 15300000 0)/\rq (.ptr 15300303 0)/\rq (aI r)/\rq (aI m)/\rh [Wf e,hB 15300303 [aB a.1,.row 15301704 (a.2.1+1),.row 15302304 (a.2.2.1+1),.row 15301204 a.2.2.2.1],(15301204,.row false true (Prod.fst c) 3 1 (Prod.snd c)),(15301704,.row false true (a.2.1+1) 9 1 (Cn d k)),(15302304,.row false true (a.2.2.1+1) 9 1 (Cn b s))]/\p x (w6 (f+1)) (e.1,(),(),(),()) (a.1,a.2.1+1,a.2.2.1+1,a.2.2.2.1,()) (a.2.1+1,Cn d k) (a.2.2.1+1,Cn b s) (Prod.fst c,Prod.snd c)/\((n x (w6 (f+1)) (e.1,(),(),(),()) (a.1,a.2.1+1,a.2.2.1+1,a.2.2.2.1,()) (a.2.1+1,Cn d k) (a.2.2.1+1,Cn b s) (Prod.fst c,Prod.snd c)):Nat)<n i f e a d b c)) (rq (aI h)/\rq (aS g)/\rq (.ptr 15300000 0)/\rq (.ptr 15300303 0)/\rq (aI r)/\rq (aI m)/\rh [Wf e,hB 15300303 [aB a.1,.row 15301704 (a.2.1+1),.row 15302304 a.2.2.1,.row 15301204 a.2.2.2.1],(15301204,.row false true (Prod.fst c) 3 1 (Prod.snd c)),(15301704,.row false true (a.2.1+1) 9 1 (Cn d k)),(15302304,.row false true (Prod.fst b) 9 1 (Prod.snd b))]/\p u (w6 (f+1)) (e.1,(),(),(),()) (a.1,a.2.1+1,a.2.2.1,a.2.2.2.1,()) (a.2.1+1,Cn d k) (Prod.fst b,Prod.snd b) (Prod.fst c,Prod.snd c)/\((n u (w6 (f+1)) (e.1,(),(),(),()) (a.1,a.2.1+1,a.2.2.1,a.2.2.2.1,()) (a.2.1+1,Cn d k) (Prod.fst b,Prod.snd b) (Prod.fst c,Prod.snd c)):Nat)<n i f e a d b c)))) (oN h m g i c a o d b)) (oN h m g i c a o d b)
def qE (a:Int)(b:bA)(R:AV->Prop):Prop:=
 Ae (a != 1) (Ae (a != 2) (R (.tup [F5,aI 81])) (qN b a R)) (qN b a R)
def uL:=λa b c=>PLift.up (by delta qE P6 ZD MN UN F5 eW oN Ux Qp Jv UB Wf Jz qL ZH qN Kq Cn UU MG Y9 Z4 Jn;exact rfl:qE a b c=_)
theorem xY a b R:Vc AD c153.body (Af c153 [aI a,aS b]) [] (Av c153 R)=qE a b R:=by kernel_rfl
abbrev RE (a:LD):=
 decide ((a.length:Int)<=8)
abbrev fE (d:Bool)(b:LD)(c:Bool)(a:AV->Prop):=
 Ae d (Ae (RE b) (Ae c (a (.n (.bool true))) (a (.n (.bool (decide ((b.length:Int)>=4)))))) (a (.n (.bool false)))) (a (.n (.bool false)))
def mD (d:Bool)(b c f:LD)(e:Bool)(R:AV->Prop):Prop:=
 ∃a:Bool,Runs AD 185 [Bf d b c f] [] (aB a) []/\fE a b e R
def AAs:=λa b c d e f=>PLift.up (by delta mD RE fE Bf;exact rfl:mD a b c d e f=_)
theorem AAO d c e b a R:Vc AD c154.body (Af c154 [(.agg [aB d,aL c,aL e,aL b]),aB a]) [] (Av c154 R)=mD d c e b a R:=by kernel_rfl
abbrev Kk (b:bA)(c a:Int):=
 hB 21700302 [aS b,aI c,aI a]
abbrev Xq:=
 bA×Int×Int×Unit
abbrev X8 (a:AV->Prop):=
 a (.tup [IX,aI 4])
abbrev Vw (a:(Nat×LD)):AV:=
 .n (D.sl 1 (Prod.snd a))
abbrev kL (a:Kq)(f:Xq)(b:(Nat×LD))(c:AV->Prop)(l:bA)(d e:(Nat×LD)):=
 Ae (Bool.not a.1) (∃(g:Int)(m:bA)(k h:Int),Runs AD 237 [.ptr 21700302 0,aI 2] [hB 21700302 [aS f.1,aI f.2.1,aI f.2.2.1]] (aI g) [Kk m k h]/\rn 0/\P6 g/\UU b a/\(((Jn b+List.length [D.int .i64 g])*8):Nat)<=140737488355328/\Ae (h != 0) (c (.tup [IX,aI h])) (Ae (k != (((ByteArray.size l):Nat):Int)) (X8 c) (Prod.fst d=a.2.1/\Prod.fst e=a.2.2.1/\UB a/\∃j:Bool,Runs AD 195 [.agg [aB a.1,aL (Prod.snd d),aL (Prod.snd e),aL (Prod.snd b++[D.int .i64 g])],aB true] [] (aB j) []/\Ae (Bool.not j) (X8 c) (Prod.fst d=a.2.1/\Prod.fst e=a.2.2.1/\UB a/\c (.tup [.agg [aB a.1,Vw d,Vw e,.n (D.sl 1 (Prod.snd b++[D.int .i64 g]))],aI 0]))))) (Ae (f.2.2.1 != 0) (c (.tup [IX,aI f.2.2.1])) (Ae (f.2.1 != (((ByteArray.size l):Nat):Int)) (X8 c) (Prod.fst d=a.2.1/\Prod.fst e=a.2.2.1/\Prod.fst b=a.2.2.2.1/\∃i:Bool,Runs AD 195 [.agg [aB a.1,aL (Prod.snd d),aL (Prod.snd e),aL (Prod.snd b)],aB true] [] (aB i) []/\Ae (Bool.not i) (X8 c) (Prod.fst d=a.2.1/\Prod.fst e=a.2.2.1/\Prod.fst b=a.2.2.2.1/\c (.tup [.agg [aB a.1,Vw d,Vw e,Vw b],aI 0])))))
abbrev rS (k:bA)(A:Int)(x:AV->Prop):=
 ∃(s:Int)(w:bA)(u v:Int),Runs AD 237 [.ptr 21700302 0,aI 1] [hB 21700302 [aS k,aI 0,aI 0]] (aI s) [Kk w u v]/\∃(l:Int->Xq->eW)(n:Int->Xq->Z4),(rh [hB 21700000 UN,Kk w u v,hB 21700403 [aB (A==1),.row 21790001 0,.row 21790002 0,.row 21790003 0],(21790001,.row false true 0 9 1 []),(21790002,.row false true 0 9 1 []),(21790003,.row false true 0 3 1 [])]/\l 0 (w,u,v,()) (A==1,0,0,0,()) (0,[]) (0,[]) (0,[]))/\∀(f:Int)(e:Xq)(a:Kq)(d c b:Nat×LD),l f e a d c b->∀G:Nat->AV,Ae (decide (f<s)) (Ae (e.2.2.1==0) (Ae a.1 (∃(h E:bA)(F C:Int),Runs AD 238 [.ptr 21700302 0] [hB 21700302 [aS e.1,aI e.2.1,aI e.2.2.1]] (aS h) [Kk E F C]/\rn 0/\Jz h/\Ux d a/\Jv d h/\∃(g p:bA)(m t:Int),Runs AD 238 [.ptr 21700302 0] [Kk E F C] (aS g) [Kk p m t]/\rn 0/\Jz g/\((((Prod.fst c):Nat)=a.2.2.1/\rn 9)/\rn 1)/\Jv c g/\rq (aS k)/\rq (.ptr 21700000 0)/\rq (.ptr 21700302 0)/\rq (.ptr 21700403 0)/\rq (aI s)/\rh [hB 21700000 UN,Kk p m t,hB 21700403 [aB a.1,.row 21790001 (a.2.1+1),.row 21790002 (a.2.2.1+1),.row 21790003 a.2.2.2.1],(21790001,.row false true (a.2.1+1) 9 1 (Cn d h)),(21790002,.row false true (a.2.2.1+1) 9 1 (Cn c g)),(21790003,.row false true (Prod.fst b) 3 1 (Prod.snd b))]/\l (w6 (f+1)) (p,m,t,()) (a.1,a.2.1+1,a.2.2.1+1,a.2.2.2.1,()) (a.2.1+1,Cn d h) (a.2.2.1+1,Cn c g) (Prod.fst b,Prod.snd b)/\((n (w6 (f+1)) (p,m,t,()) (a.1,a.2.1+1,a.2.2.1+1,a.2.2.2.1,()) (a.2.1+1,Cn d h) (a.2.2.1+1,Cn c g) (Prod.fst b,Prod.snd b)):Nat)<n f e a d c b) (∃(j:Int)(B:bA)(y z:Int),Runs AD 237 [.ptr 21700302 0,aI 2] [hB 21700302 [aS e.1,aI e.2.1,aI e.2.2.1]] (aI j) [Kk B y z]/\rn 0/\P6 j/\UU b a/\(((Jn b+List.length [D.int .i64 j])*8):Nat)<=140737488355328/\∃(i q:bA)(r o:Int),Runs AD 238 [.ptr 21700302 0] [Kk B y z] (aS i) [Kk q r o]/\rn 0/\Jz i/\Ux d a/\Jv d i/\rq (aS k)/\rq (.ptr 21700000 0)/\rq (.ptr 21700302 0)/\rq (.ptr 21700403 0)/\rq (aI s)/\rh [hB 21700000 UN,Kk q r o,hB 21700403 [aB a.1,.row 21790001 (a.2.1+1),.row 21790002 a.2.2.1,.row 21790003 (a.2.2.2.1+1)],(21790001,.row false true (a.2.1+1) 9 1 (Cn d i)),(21790002,.row false true (Prod.fst c) 9 1 (Prod.snd c)),(21790003,.row false true (a.2.2.2.1+1) 3 1 (Prod.snd b++[D.int .i64 j]))]/\l (w6 (f+1)) (q,r,o,()) (a.1,a.2.1+1,a.2.2.1,a.2.2.2.1+1,()) (a.2.1+1,Cn d i) (Prod.fst c,Prod.snd c) (a.2.2.2.1+1,Prod.snd b++[D.int .i64 j])/\((n (w6 (f+1)) (q,r,o,()) (a.1,a.2.1+1,a.2.2.1,a.2.2.2.1+1,()) (a.2.1+1,Cn d i) (Prod.fst c,Prod.snd c) (a.2.2.2.1+1,Prod.snd b++[D.int .i64 j])):Nat)<n f e a d c b)) (kL a e b x k d c)) (kL a e b x k d c)
def qR (a:Int)(b:bA)(R:AV->Prop):Prop:=
 Ae (a != 1) (Ae (a != 2) (R (.tup [IX,aI 81])) (rS b a R)) (rS b a R)
def wP:=λa b c=>PLift.up (by delta qR P6 X8 UN kL IX eW Ux Jv UB Jz Vw rS Kq UU Cn Kk Z4 Jn Xq;exact rfl:qR a b c=_)
theorem tF a b R:Vc AD c217.body (Af c217 [aI a,aS b]) [] (Av c217 R)=qR a b R:=by kernel_rfl
def lE (d:Bool)(b c f:LD)(e:Bool)(R:AV->Prop):Prop:=
 ∃a:Bool,Runs AD 197 [Bf d b c f] [] (aB a) []/\fE a b e R
def AB9:=λa b c d e f=>PLift.up (by delta lE RE fE Bf;exact rfl:lE a b c d e f=_)
theorem zT d c e b a R:Vc AD c195.body (Af c195 [(.agg [aB d,aL c,aL e,aL b]),aB a]) [] (Av c195 R)=lE d c e b a R:=by kernel_rfl
abbrev QX (b:LD)(c:Int)(a:D):=
 (b[Int.toNat (w6 (c-1))]?=some a)
abbrev Kl (a b:bA):=
 Op.bytesLess (ByteArray.toList a) (ByteArray.toList b)
abbrev iM (a:LD)(f:Bool)(d e:LD)(g:(Int->Prop))(b:Int)(c:(Int->Nat)):=
 rq (.ptr 19700000 0)/\GW a/\rq (aL a)/\GW a/\rh [hB 19700000 [aB f,aL a,aL d,aL e]]/\g (w6 (b+1))/\((c (w6 (b+1))):Nat)<c b
def pZ (g:Bool)(a d c:LD)(R:AV->Prop):Prop:=
 Ae (decide ((a.length:Int) > 9)) (R (.n (.bool false))) (∃(f:Int->Prop)(l:Int->Nat),(rh [hB 19700000 [aB g,aL a,aL d,aL c]]/\f 0)/\∀b:Int,f b->∀o:Nat->AV,Ae (BK b a) (rn 1/\(0:Int)<=b/\∃k:D,AW a b k/\∃e:bA,Ci k e/\Ae (decide ((((ByteArray.size e):Nat):Int)<1)) (R (.n (.bool false))) (Ae (decide ((((ByteArray.size e):Nat):Int) > 32)) (R (.n (.bool false))) (Ae (decide (b > 0)) (rn 1/\(0:Int)<=w6 (b-1)/\∃j:D,QX a b j/\∃h:bA,Ci j h/\Ae (Kl e h||KM e h) (R (.n (.bool false))) (iM a g d c f b l)) (iM a g d c f b l)))) (Ae g (Ae ((c.length:Int)==0) (Ae ((d.length:Int)==(a.length:Int)) (∃i:Bool,Runs AD 111 [aL d,.fn 218 []] [] (aB i) []/\R (.n (.bool (Bool.not i)))) (R (.n (.bool false)))) (R (.n (.bool false)))) (Ae ((d.length:Int)==0) (Ae (decide ((a.length:Int)>=1)) (Ae ((c.length:Int)==w6 ((a.length:Int)+1)) (∃m:Bool,Runs AD 219 [aL c,.fn 220 []] [] (aB m) []/\R (.n (.bool (Bool.not m)))) (R (.n (.bool false)))) (R (.n (.bool false)))) (R (.n (.bool false))))))
def ACh:=λa b c d e=>PLift.up (by delta pZ GW Kl KM Ci QX AW iM BK;exact rfl:pZ a b c d e=_)
theorem sW b d c a R:Vc AD c197.body (Af c197 [(.agg [aB b,aL d,aL c,aL a])]) [] (Av c197 R)=pZ b d c a R:=by kernel_rfl
def lO (b c a:bA)(R:AV->Prop):Prop:=
 Ae (Bool.not (Kl b c)) (Ae (ByteArray.toList a==ByteArray.toList Fl) (R (.n (.bool true))) (R (.n (.bool (Kl b a))))) (R (.n (.bool false)))
def AAH:=λa b c d=>PLift.up (by delta lO Fl Kl;exact rfl:lO a b c d=_)
theorem ACf b c a R:Vc AD c118.body (Af c118 [aS b,aS c,aS a]) [] (Av c118 R)=lO b c a R:=by kernel_rfl
def ABT (d:LD)(R:AV->Prop):Prop:=
 ∃e:Int,Runs AD 122 [aL d] [] (aI e) []/\∃(f:Int->Int->Prop)(c:Int->Int->Nat),(rh []/\f 0 0)/\∀(b a:Int),f b a->∀h:Nat->AV,Ae (decide (a<e)) (∃g:Bool,Runs AD 123 [aL d,.fn 157 [.ptr 12100401 0]] [hB 12100401 [aI a]] (aB g) [hB 12100401 [aI a]]/\Ae (Bool.not g) (rq (aL d)/\rq (aI e)/\rh []/\f (w6 (b+1)) (w6 (a+1))/\((c (w6 (b+1)) (w6 (a+1))):Nat)<c b a) (rq (aL d)/\rq (aI e)/\rh []/\f b (w6 (a+1))/\((c b (w6 (a+1))):Nat)<c b a)) (R (.n (.int .i64 b)))
theorem yR a R:Vc AD c121.body (Af c121 [aL a]) [] (Av c121 R)=ABT a R:=by kernel_rfl
abbrev RX (b:Bool)(d a c:LD):=
 rh [hB 18500000 [aB b,aL d,aL a,aL c]]
abbrev nW (b:LD)(f:Bool)(d e:LD)(g:(Int->Prop))(a:Int)(c:(Int->Nat)):=
 rq (.ptr 18500000 0)/\rq (aL b)/\GW b/\RX f b d e/\g (w6 (a+1))/\((c (w6 (a+1))):Nat)<c a
def mI (e:Bool)(a c b:LD)(R:AV->Prop):Prop:=
 Ae (decide ((a.length:Int) > 9)) (R (.n (.bool false))) (∃(i:Int->Prop)(u:Int->Nat),(RX e a c b/\i 0)/\∀d:Int,i d->∀w:Nat->AV,Ae (BK d a) (rn 1/\(0:Int)<=d/\∃s:D,AW a d s/\∃h:bA,Ci s h/\Ae (decide ((((ByteArray.size h):Nat):Int)<1)) (R (.n (.bool false))) (Ae (decide ((((ByteArray.size h):Nat):Int) > 32)) (R (.n (.bool false))) (Ae (decide (d > 0)) (rn 1/\(0:Int)<=w6 (d-1)/\∃o:D,QX a d o/\∃j:bA,Ci o j/\Ae (Kl h j||KM h j) (R (.n (.bool false))) (nW a e c b i d u)) (nW a e c b i d u)))) (∃(k:Int->Prop)(t:Int->Nat),(RX e a c b/\k 0)/\∀g:Int,k g->∀y:Nat->AV,Ae (BK g c) (rn 1/\(0:Int)<=g/\∃r:D,AW c g r/\∃v:bA,Ci r v/\Ae (decide ((((ByteArray.size v):Nat):Int) > 200)) (R (.n (.bool false))) (rq (.ptr 18500000 0)/\rq (aL c)/\GW c/\RX e a c b/\k (w6 (g+1))/\((t (w6 (g+1))):Nat)<t g)) (∃(l:Int->Prop)(q:Int->Nat),(RX e a c b/\l 0)/\∀f:Int,l f->∀x:Nat->AV,Ae (BK f b) (rn 1/\(0:Int)<=f/\∃p:D,AW b f p/\∃m:Int,((D.cells p)[0]?=some (D.int .i64 m))/\Ae (decide (m<10)) (R (.n (.bool false))) (Ae (decide (m > 2047)) (R (.n (.bool false))) (rq (.ptr 18500000 0)/\rq (aL b)/\GW b/\RX e a c b/\l (w6 (f+1))/\((q (w6 (f+1))):Nat)<q f))) (Ae e (Ae ((c.length:Int)==(a.length:Int)) (R (.n (.bool ((b.length:Int)==0)))) (R (.n (.bool false)))) (Ae ((c.length:Int)==0) (Ae (decide ((a.length:Int)>=1)) (R (.n (.bool ((b.length:Int)==w6 ((a.length:Int)+1))))) (R (.n (.bool false)))) (R (.n (.bool false))))))))
def AAL:=λa b c d e=>PLift.up (by delta mI GW Kl KM Ci QX RX AW BK nW;exact rfl:mI a b c d e=_)
theorem tV b d c a R:Vc AD c185.body (Af c185 [(.agg [aB b,aL d,aL c,aL a])]) [] (Av c185 R)=mI b d c a R:=by kernel_rfl
def iO (a:bA)(R:AV->Prop):Prop:=
 R (.n (.bool (rW a)))
def ABp:=λa b=>PLift.up (by delta iO rW;exact rfl:iO a b=_)
theorem zB a R:Vc AD c112.body (Af c112 [aS a]) [] (Av c112 R)=iO a R:=by kernel_rfl
def AE5 (a:bA)(R:AV->Prop):Prop:=
 R (.n (.bool (decide ((((ByteArray.size a):Nat):Int) > 200))))
theorem ABA a R:Vc AD c218.body (Af c218 [aS a]) [] (Av c218 R)=AE5 a R:=by kernel_rfl
def zI (a:Int)(R:AV->Prop):Prop:=
 Ae (decide (a<10)) (R (.n (.bool true))) (R (.n (.bool (decide (a>=2048)))))
theorem vZ a R:Vc AD c220.body (Af c220 [aI a]) [] (Av c220 R)=zI a R:=by kernel_rfl
def tJ (a:LD)(c:bA)(R:AV->Prop):Prop:=
 ∃b:Int,Runs AD 221 [aI (a.length:Int),.fn 222 [.ptr 19800000 0,.ptr 19800001 0]] [hB 19800000 [aL a],hB 19800001 [aS c]] (aI b) [hB 19800000 [aL a],hB 19800001 [aS c]]/\R (.n (.int .i64 b))
theorem AAr a b R:Vc AD c198.body (Af c198 [aL a,aS b]) [] (Av c198 R)=tJ a b R:=by kernel_rfl
abbrev Lx (a:D)(b:LD):=
 ((D.cells a)[0]?=some (D.sl 1 b))
def oG (c:LD)(R:AV->Prop):Prop:=
 ∃(e:Int->Int->Prop)(f:Int->Int->Nat),(rh []/\e 0 0)/\∀(b a:Int),e b a->∀h:Nat->AV,Ae (BK a c) (rn 1/\(0:Int)<=a/\∃g:D,AW c a g/\∃d:LD,Lx g d/\rq (aL c)/\rq (aI (c.length:Int))/\rh []/\e (Ck true b (d.length:Int)) (w6 (a+1))/\((f (Ck true b (d.length:Int)) (w6 (a+1))):Nat)<f b a) (R (.n (.int .i64 b)))
def ABu:=λa b=>PLift.up (by delta oG AW Lx BK;exact rfl:oG a b=_)
theorem yE a R:Vc AD c122.body (Af c122 [aL a]) [] (Av c122 R)=oG a R:=by kernel_rfl
def lF (b:LD)(a:Int)(R:AV->Prop):Prop:=
 Ae (BK a b) (rn 1/\(0:Int)<=a/\∃c:D,AW b a c/\∃d:Bool,Dt c d/\R (.n (.bool d))) (R (.n (.bool false)))
def AAo:=λa b c=>PLift.up (by delta lF AW Dt BK;exact rfl:lF a b c=_)
theorem vV a b R:Vc AD c125.body (Af c125 [aL a,aI b]) [] (Av c125 R)=lF a b R:=by kernel_rfl
abbrev fD (a:LD)(b:bA):=
 rh [hB 19800000 [aL a],hB 19800001 [aS b]]
abbrev nZ:=
 rq (.fn 222 [.ptr 19800000 0,.ptr 19800001 0])
def WS (n:Int)(a:LD)(x:bA)(R:AV->Heap->Prop):Prop:=
 ∃(d:Int->Int->Prop)(e:Int->Int->Nat),(fD a x/\d 0 n)/\∀(b c:Int),d b c->∀g:Nat->AV,Ae (decide (b<c)) ((0:Int)<=1/\∃f:Bool,Runs AD 222 [aI (w6 (Int.fdiv (IntKind.wrap .u64 (w6 (b+c))) (2 ^ (Min.min (Int.toNat 1) (Go.IntKind.bits .u64))))),.ptr 19800000 0,.ptr 19800001 0] [hB 19800000 [aL a],hB 19800001 [aS x]] (aB f) [hB 19800000 [aL a],hB 19800001 [aS x]]/\Ae (Bool.not f) (nZ/\fD a x/\d (w6 (w6 (Int.fdiv (IntKind.wrap .u64 (w6 (b+c))) (2 ^ (Min.min (Int.toNat 1) (Go.IntKind.bits .u64))))+1)) c/\((e (w6 (w6 (Int.fdiv (IntKind.wrap .u64 (w6 (b+c))) (2 ^ (Min.min (Int.toNat 1) (Go.IntKind.bits .u64))))+1)) c):Nat)<e b c) (nZ/\fD a x/\d b (w6 (Int.fdiv (IntKind.wrap .u64 (w6 (b+c))) (2 ^ (Min.min (Int.toNat 1) (Go.IntKind.bits .u64)))))/\((e b (w6 (Int.fdiv (IntKind.wrap .u64 (w6 (b+c))) (2 ^ (Min.min (Int.toNat 1) (Go.IntKind.bits .u64)))))):Nat)<e b c)) (R (.n (.int .i64 b)) [hB 19800000 [aL a],hB 19800001 [aS x]])
def iW:=λa b c d=>PLift.up (by delta WS nZ fD;exact rfl:WS a b c d=_)
theorem qD (n:Int)(a:LD)(x:bA)(R:AV->Heap->Prop):Vc AD c221.body (Af c221 [aI n,.fn 222 [.ptr 19800000 0,.ptr 19800001 0]]) [(19800000,.box [aL a]),(19800001,.box [aS x])] (AP c221 [(19800000,.box [aL a]),(19800001,.box [aS x])] R)=WS n a x R:=by kernel_rfl
def Yt (i:Int)(a:LD)(x:bA)(R:AV->Heap->Prop):Prop:=
 rn 1/\(0:Int)<=i/\∃b:D,(a[Int.toNat i]?=some b)/\∃c:bA,Ci b c/\R (.n (.bool (Bool.not (Kl c x)))) [hB 19800000 [aL a],hB 19800001 [aS x]]
def mX:=λa b c d=>PLift.up (by delta Yt Ci Kl;exact rfl:Yt a b c d=_)
theorem kJ (i:Int)(a:LD)(x:bA)(R:AV->Heap->Prop):Vc AD c222.body (Af c222 [aI i,.ptr 19800000 0,.ptr 19800001 0]) [(19800000,.box [aL a]),(19800001,.box [aS x])] (AP c222 [(19800000,.box [aL a]),(19800001,.box [aS x])] R)=Yt i a x R:=by kernel_rfl
abbrev Sy (a:Int):=
 hB 12100401 [aI a]
def YK (a:LD)(i:Int)(R:AV->Heap->Prop):Prop:=
 ∃b:Bool,Runs AD 125 [aL a,aI i] [] (aB b) []/\R (.n (.bool (Bool.not b))) [Sy i]
def nI:=λa b c=>PLift.up (by delta YK Sy;exact rfl:YK a b c=_)
theorem oS (a:LD)(i:Int)(R:AV->Heap->Prop):Vc AD c157.body (Af c157 [aL a,.ptr 12100401 0]) [(12100401,.box [aI i])] (AP c157 [(12100401,.box [aI i])] R)=YK a i R:=by kernel_rfl
def WH (l:LD)(i:Int)(R:AV->Heap->Prop):Prop:=
 ∃(b:Int->Prop)(e:Int->Nat),(rh [hB 12100401 [aI i]]/\b 0)/\∀a:Int,b a->∀g:Nat->AV,Ae (BK a l) (rn 1/\(0:Int)<=a/\∃d:D,AW l a d/\∃f:LD,Lx d f/\∃c:Bool,Runs AD 157 [aL f,.ptr 12100401 0] [hB 12100401 [aI i]] (aB c) [hB 12100401 [aI i]]/\Ae c (R (.n (.int .i64 a)) [Sy i]) (rq (aL l)/\rq (.fn 157 [.ptr 12100401 0])/\rq (aI (l.length:Int))/\rh [hB 12100401 [aI i]]/\b (w6 (a+1))/\((e (w6 (a+1))):Nat)<e a)) (R (.n (.int .i64 (-1))) [Sy i])
def iT:=λa b c=>PLift.up (by delta WH AW Lx BK Sy;exact rfl:WH a b c=_)
theorem rC (l:LD)(i:Int)(R:AV->Heap->Prop):Vc AD c158.body (Af c158 [aL l,.fn 157 [.ptr 12100401 0]]) [(12100401,.box [aI i])] (AP c158 [(12100401,.box [aI i])] R)=WH l i R:=by kernel_rfl
def Zs (l:LD)(i:Int)(R:AV->Heap->Prop):Prop:=
 ∃a:Int,Runs AD 158 [aL l,.fn 157 [.ptr 12100401 0]] [hB 12100401 [aI i]] (aI a) [hB 12100401 [aI i]]/\R (Rw a) [Sy i]
def oP:=λa b c=>PLift.up (by delta Zs Rw Sy;exact rfl:Zs a b c=_)
theorem pL (l:LD)(i:Int)(R:AV->Heap->Prop):Vc AD c123.body (Af c123 [aL l,.fn 157 [.ptr 12100401 0]]) [(12100401,.box [aI i])] (AP c123 [(12100401,.box [aI i])] R)=Zs l i R:=by kernel_rfl
def Wp (l:LD)(R:AV->Prop):Prop:=
 ∃a:Int,Runs AD 146 [aL l,.fn 112 []] [] (aI a) []/\R (Rw a)
def lU:=λa b=>PLift.up (by delta Wp Rw;exact rfl:Wp a b=_)
theorem iA l R:Vc AD c111.body (Af c111 [aL l,.fn 112 []]) [] (Av c111 R)=Wp l R:=by kernel_rfl
def WW (l:LD)(R:AV->Prop):Prop:=
 ∃(b:Int->Prop)(e:Int->Nat),(rh []/\b 0)/\∀a:Int,b a->∀g:Nat->AV,Ae (BK a l) (rn 1/\(0:Int)<=a/\∃d:D,AW l a d/\∃f:bA,Ci d f/\∃c:Bool,Runs AD 112 [aS f] [] (aB c) []/\Ae c (R (.n (.int .i64 a))) (rq (aL l)/\rq (.fn 112 [])/\rq (aI (l.length:Int))/\rh []/\b (w6 (a+1))/\((e (w6 (a+1))):Nat)<e a)) (R (.n (.int .i64 (-1))))
def nE:=λa b=>PLift.up (by delta WW Ci AW BK;exact rfl:WW a b=_)
theorem iZ l R:Vc AD c146.body (Af c146 [aL l,.fn 112 []]) [] (Av c146 R)=WW l R:=by kernel_rfl
def Y3 (l:LD)(R:AV->Prop):Prop:=
 ∃a:Int,Runs AD 146 [aL l,.fn 218 []] [] (aI a) []/\R (Rw a)
def qT:=λa b=>PLift.up (by delta Y3 Rw;exact rfl:Y3 a b=_)
theorem rF l R:Vc AD c111.body (Af c111 [aL l,.fn 218 []]) [] (Av c111 R)=Y3 l R:=by kernel_rfl
def XX (l:LD)(R:AV->Prop):Prop:=
 ∃(b:Int->Prop)(e:Int->Nat),(rh []/\b 0)/\∀a:Int,b a->∀g:Nat->AV,Ae (BK a l) (rn 1/\(0:Int)<=a/\∃d:D,AW l a d/\∃f:bA,Ci d f/\∃c:Bool,Runs AD 218 [aS f] [] (aB c) []/\Ae c (R (.n (.int .i64 a))) (rq (aL l)/\rq (.fn 218 [])/\rq (aI (l.length:Int))/\rh []/\b (w6 (a+1))/\((e (w6 (a+1))):Nat)<e a)) (R (.n (.int .i64 (-1))))
def qY:=λa b=>PLift.up (by delta XX Ci AW BK;exact rfl:XX a b=_)
theorem jN l R:Vc AD c146.body (Af c146 [aL l,.fn 218 []]) [] (Av c146 R)=XX l R:=by kernel_rfl
def YF (l:LD)(R:AV->Prop):Prop:=
 ∃a:Int,Runs AD 239 [aL l,.fn 220 []] [] (aI a) []/\R (Rw a)
def rK:=λa b=>PLift.up (by delta YF Rw;exact rfl:YF a b=_)
theorem nV l R:Vc AD c219.body (Af c219 [aL l,.fn 220 []]) [] (Av c219 R)=YF l R:=by kernel_rfl
def YV (l:LD)(R:AV->Prop):Prop:=
 ∃(b:Int->Prop)(e:Int->Nat),(rh []/\b 0)/\∀a:Int,b a->∀g:Nat->AV,Ae (BK a l) (rn 1/\(0:Int)<=a/\∃d:D,AW l a d/\∃f:Int,((D.cells d)[0]?=some (D.int .i64 f))/\∃c:Bool,Runs AD 220 [aI f] [] (aB c) []/\Ae c (R (.n (.int .i64 a))) (rq (aL l)/\rq (.fn 220 [])/\rq (aI (l.length:Int))/\rh []/\b (w6 (a+1))/\((e (w6 (a+1))):Nat)<e a)) (R (.n (.int .i64 (-1))))
def rM:=λa b=>PLift.up (by delta YV AW BK;exact rfl:YV a b=_)
theorem iI l R:Vc AD c239.body (Af c239 [aL l,.fn 220 []]) [] (Av c239 R)=YV l R:=by kernel_rfl
abbrev OH (a:bA):=
 hB 13700000 [aS a]
abbrev Pt (a:bA):=
 hB 13700001 [aS a]
def XF (k b a:bA)(R:AV->Heap->Prop):Prop:=
 Ae (Kl k b) (R (.n (.bool true)) [OH b,Pt a]) (Ae (gH a) (R (.n (.bool (Bool.not (Kl k a)))) [OH b,Pt a]) (R (.n (.bool false)) [OH b,Pt a]))
def mB:=λa b c d=>PLift.up (by delta XF Kl gH Fl OH Pt;exact rfl:XF a b c d=_)
theorem jE (k:bA)(lo:bA)(hi:bA)(R:AV->Heap->Prop):Vc AD c172.body (Af c172 [aS k,.ptr 13700000 0,.ptr 13700001 0]) [(13700000,.box [aS lo]),(13700001,.box [aS hi])] (AP c172 [(13700000,.box [aS lo]),(13700001,.box [aS hi])] R)=XF k lo hi R:=by kernel_rfl
abbrev Ut:List AV:=
 [.ptr 13700000 0,.ptr 13700001 0]
def YY (l:LD)(b a:bA)(R:AV->Heap->Prop):Prop:=
 ∃c:Int,Runs AD 146 [aL l,.fn 172 Ut] [hB 13700000 [aS b],hB 13700001 [aS a]] (aI c) [hB 13700000 [aS b],hB 13700001 [aS a]]/\R (Rw c) [OH b,Pt a]
def lP:=λa b c d=>PLift.up (by delta YY Rw Ut Pt OH;exact rfl:YY a b c d=_)
theorem kM (l:LD)(lo:bA)(hi:bA)(R:AV->Heap->Prop):Vc AD c111.body (Af c111 [aL l,.fn 172 [.ptr 13700000 0,.ptr 13700001 0]]) [(13700000,.box [aS lo]),(13700001,.box [aS hi])] (AP c111 [(13700000,.box [aS lo]),(13700001,.box [aS hi])] R)=YY l lo hi R:=by kernel_rfl
def Zn (l:LD)(c b:bA)(R:AV->Heap->Prop):Prop:=
 ∃(d:Int->Prop)(g:Int->Nat),(rh [hB 13700000 [aS c],hB 13700001 [aS b]]/\d 0)/\∀a:Int,d a->∀i:Nat->AV,Ae (BK a l) (rn 1/\(0:Int)<=a/\∃f:D,AW l a f/\∃h:bA,Ci f h/\∃e:Bool,Runs AD 172 [aS h,.ptr 13700000 0,.ptr 13700001 0] [hB 13700000 [aS c],hB 13700001 [aS b]] (aB e) [hB 13700000 [aS c],hB 13700001 [aS b]]/\Ae e (R (.n (.int .i64 a)) [OH c,Pt b]) (rq (aL l)/\rq (.fn 172 Ut)/\rq (aI (l.length:Int))/\rh [hB 13700000 [aS c],hB 13700001 [aS b]]/\d (w6 (a+1))/\((g (w6 (a+1))):Nat)<g a)) (R (.n (.int .i64 (-1))) [OH c,Pt b])
def mJ:=λa b c d=>PLift.up (by delta Zn Ci OH AW Ut Pt BK;exact rfl:Zn a b c d=_)
theorem nU (l:LD)(lo:bA)(hi:bA)(R:AV->Heap->Prop):Vc AD c146.body (Af c146 [aL l,.fn 172 [.ptr 13700000 0,.ptr 13700001 0]]) [(13700000,.box [aS lo]),(13700001,.box [aS hi])] (AP c146 [(13700000,.box [aS lo]),(13700001,.box [aS hi])] R)=Zn l lo hi R:=by kernel_rfl
abbrev UI (b:bA)(c a:Int):=
 hB 21700302 [aS b,aI c,aI a]
def ZL (s:bA)(n e k:Int)(R:AV->Heap->Prop):Prop:=
 Ae (e != 0) (R (.n (.int .i64 0)) [UI s n e]) (∃(b c a:Int),Runs AD 134 [aS s,aI n,aI k] [] (MG b c a) []/\R (.n (.int .i64 b)) [UI s c a])
def jX:=λa b c d e=>PLift.up (by delta ZL MG UI;exact rfl:ZL a b c d e=_)
theorem lD (s:bA)(n:Int)(e:Int)(k:Int)(R:AV->Heap->Prop):Vc AD c237.body (Af c237 [.ptr 21700302 0,aI k]) [(21700302,.box [aS s,aI n,aI e])] (AP c237 [(21700302,.box [aS s,aI n,aI e])] R)=ZL s n e k R:=by kernel_rfl
def Y8 (s:bA)(n e:Int)(R:AV->Heap->Prop):Prop:=
 Ae (e != 0) (R Gl [UI s n e]) (∃(b:bA)(c a:Int),Runs AD 245 [aS s,aI n] [] (.tup [aS b,aI c,aI a]) []/\R (.n (.str b)) [UI s c a])
def lQ:=λa b c d=>PLift.up (by delta Y8 Fl UI Gl;exact rfl:Y8 a b c d=_)
theorem oV (s:bA)(n:Int)(e:Int)(R:AV->Heap->Prop):Vc AD c238.body (Af c238 [.ptr 21700302 0]) [(21700302,.box [aS s,aI n,aI e])] (AP c238 [(21700302,.box [aS s,aI n,aI e])] R)=Y8 s n e R:=by kernel_rfl
abbrev pB (c d a:LD)(b e:Int):=
 hB 17100302 [aL c,aL d,aL a,aI b,aI e,Gl,aI 0,aI 0,.n D.nil,Gl,aB false,aB false]
abbrev Qh (d:AV->Heap->Prop)(e a b:LD)(f c:Int):=
 d (.tup [IX,aB false]) [pB e a b f c]
def Y2 (d a b:LD)(e c f:Int)(v:Bool)(R:AV->Heap->Prop):Prop:=
 Ae (decide (f<10)) (Qh R d a b e c) (Ae (Lv f a) (Qh R d a b e c) (rn 1/\(0:Int)<=f/\∃r:D,AW a f r/\∃s:Bool,Dt r s/\Ae (Bool.not s) (Qh R d a b e c) (rn 1/\(0:Int)<=f/\∃l:D,AW b f l/\∃m:bA,Ci l m/\0=0/\∃(q t:Int)(o:bA)(k:Int),Runs AD 90 [aS m,aL [D.int .i64 1,D.int .i64 2]] [] (VU q t o k) []/\Ae (k != 0) (Qh R d a b e c) (Ae (decide (t > c)) (Qh R d a b e c) (∃(g:Bool)(h j i:LD)(p:Int),Runs AD 217 [aI q,aS o] [] (.tup [Im g h j i,aI p]) []/\Ae (p != 0) (Qh R d a b e c) (∃u:Bool,Runs AD 195 [Bf g h j i,aB v] [] (aB u) []/\Ae (Bool.not u) (Qh R d a b e c) (R (.tup [U7 g h j i,aB true]) [pB d a b e c])))))))
def lZ:=λa b c d e f g h=>PLift.up (by delta Y2 pB Fl Qh Im VU Bf Gl Ci AW Dt U7 IX Lv;exact rfl:Y2 a b c d e f g h=_)
theorem kE (ba:LD)(no:LD)(pa:LD)(ro:Int)(ge:Int)(block:Int)(root:Bool)(R:AV->Heap->Prop):Vc AD c194.body (Af c194 [.ptr 17100302 0,aI block,aB root]) [(17100302,.box [aL ba,aL no,aL pa,aI ro,aI ge,aS (ByteArray.mk (List.toArray [])),aI 0,aI 0,.n .nil,aS (ByteArray.mk (List.toArray [])),aB false,aB false])] (AP c194 [(17100302,.box [aL ba,aL no,aL pa,aI ro,aI ge,aS (ByteArray.mk (List.toArray [])),aI 0,aI 0,.n .nil,aS (ByteArray.mk (List.toArray [])),aB false,aB false])] R)=Y2 ba no pa ro ge block root R:=by kernel_rfl
abbrev Sf (f g a:LD)(b i e j c:Int)(d:Nat)(h:Bool):=
 hB 9200307 [aL f,aL g,aL a,aI b,aI i,aI e,aI j,aI c,.row 9200305 d,aB h]
abbrev eZ:AV:=
 .agg [aI 0,aI 0,aI 0]
abbrev qK:=
 Int->IH->Nat×LD->Prop
abbrev kN:=
 Int->IH->Nat×LD->Nat
abbrev R2 (a:AV->Prop):=
 a (.tup [eZ,aI 81])
abbrev QF (a:(Nat×LD))(b:Int):=
 List.set (Prod.snd a) (Int.toNat b) (D.bool true)
abbrev nA (b j f p:LD)(s o:Int)(a:IH)(e:(Nat×LD))(l k:LD)(i r m t q:Int)(n:Nat)(g:Bool)(h:(Int->(IH->Prop)))(c:Int)(d:(Int->(IH->Nat))):=
 rq (.ptr 4400001 0)/\rq (.ptr 4460101 0)/\rq (aL b)/\rq (aI (b.length:Int))/\rh [hB 4400000 (AU j f p s o),hB 4400001 [aI a.1,aI a.2.1,aI a.2.2.1],hR 4450101 (Prod.fst e) 4 1 (Prod.snd e),hB 4460101 [aL l,aL b,aL k,aI i,aI r,aI m,aI t,aI q,.row 4450101 n,aB g]]/\h (w6 (c+1)) (a.1,a.2.1,a.2.2.1,())/\((d (w6 (c+1)) (a.1,a.2.1,a.2.2.1,())):Nat)<d c a
def V44 (k j i:LD)(p m:Int)(t:LD)(R:AV->Prop):Prop:=
 (∃(X:Unit)(F:Int)(q f s:LD)(u r g h l:Int)(c:Nat)(v:Bool)(y:Nat)(z:LD),Runs AD 92 [.agg (AU k j i p m)] [] (.tup [.ptr 9200307 0,aI F]) [hR 9200305 y 4 1 z,Sf q f s u r g h l c v]/\Ae (F != 0) (R (.tup [eZ,aI F])) (∃(E:qK)(P:kN),(rh [hB 4400000 (AU k j i p m),hB 4400001 [aI 0,aI 0,aI 0],hR 4450101 y 4 1 z,hB 4460101 [aL q,aL f,aL s,aI u,aI r,aI g,aI h,aI l,.row 4450101 c,aB v]]/\E 0 (0,0,0,()) (y,z))/\∀(o:Int)(b:IH)(a:Nat×LD),E o b a->∀V:Nat->AV,Ae (BK o t) (rn 1/\(0:Int)<=o/\∃N:D,AW t o N/\∃d:Int,((D.cells N)[0]?=some (D.int .i64 d))/\Ae (decide (d<10)) (R2 R) (Oq a c/\Ae (decide (d>=((Prod.snd a).length:Int))) (R2 R) (Qq a c/\(0:Int)<=d/\MV d a/\cR c a/\∃O:D,eY a d O/\∃G:Bool,Dt O G/\Ae G (R2 R) (Qq a c/\(0:Int)<=d/\MV d a/\V0 c a/\Ry d a/\rq (.ptr 4400001 0)/\rq (.ptr 4460101 0)/\rq (aL t)/\rq (aI (t.length:Int))/\rh [hB 4400000 (AU k j i p m),hB 4400001 [aI b.1,aI b.2.1,aI b.2.2.1],hR 4450101 (Prod.fst a) 4 1 (QF a d),hB 4460101 [aL q,aL f,aL s,aI u,aI r,aI g,aI h,aI l,.row 4450101 c,aB v]]/\E (w6 (o+1)) (b.1,b.2.1,b.2.2.1,()) (Prod.fst a,QF a d)/\((P (w6 (o+1)) (b.1,b.2.1,b.2.2.1,()) (Prod.fst a,QF a d)):Nat)<P o b a)))) (∃(w:Int->IH->Prop)(M:Int->IH->Nat),(rh [hB 4400000 (AU k j i p m),hB 4400001 [aI b.1,aI b.2.1,aI b.2.2.1],hR 4450101 (Prod.fst a) 4 1 (Prod.snd a),hB 4460101 [aL q,aL f,aL s,aI u,aI r,aI g,aI h,aI l,.row 4450101 c,aB v]]/\w 0 (b.1,b.2.1,b.2.2.1,()))/\∀(e:Int)(C:IH),w e C->∀W:Nat->AV,Ae (BK e f) (rn 1/\(0:Int)<=e/\∃J:D,AW f e J/\∃A:Bool,Dt J A/\Ae (decide (e<10)) (Ae (Bool.not (A==true)) (R2 R) (nA f k j i p m C a q s u r g h l c v w e M)) (Qq a c/\(0:Int)<=e/\MV e a/\cR c a/\∃L:D,eY a e L/\∃K:Bool,Dt L K/\Ae (Bool.not (A==K)) (R2 R) (nA f k j i p m C a q s u r g h l c v w e M))) (R (.tup [.agg [aI g,aI h,aI l],aI 0])))))\/∃(Z:Unit)(B:Int),Runs AD 92 [.agg (AU k j i p m)] [] (.tup [.nilp,aI B]) []/\Ae (B != 0) (R (.tup [eZ,aI B])) (∃(T:qK)(U:kN),False/\∀(x:Int)(Q:IH)(S:Nat×LD),T x Q S->∀Y:Nat->AV,Ae (BK x t) (rn 1/\(0:Int)<=x/\∃I:D,AW t x I/\∃H:Int,((D.cells I)[0]?=some (D.int .i64 H))/\Ae (decide (H<10)) (R2 R) False) False)
def ADS:=λa b c d e f g=>PLift.up (by delta V44 V0 eY QF BK R2 AU MV qK Qq Ry Oq Dt nA IH kN eZ Sf cR AW;exact rfl:V44 a b c d e f g=_)
theorem AFC e d f c a b R:Vc AD c44.body (Af c44 [(.agg [aL e,aL d,aL f,aI c,aI a]),aL b]) [] (Av c44 R)=V44 e d f c a b R:=by kernel_rfl
abbrev M5 (b d:Nat)(a:Int)(c:Bool):=
 hB 3100101 [.row 3190001 b,.row 3190002 d,aI a,aB c]
def mC (j k l:LD)(a m:Int)(R:AV->Heap->Prop):Prop:=
 Ae (a != 0) (∃(g h:Nat)(c:Int)(d:Bool)(f:Nat)(i:LD)(e:Nat)(b:LD),Runs AD 71 [.ptr 3100101 0,.agg (AU j k l a m),aI a,aI 1,aS Fl,aS Fl] [hB 3100101 [.row 3190001 0,.row 3190002 0,aI 0,aB false],hR 3190001 0 129 2 [],hR 3190002 0 3 1 []] (.tup []) [M5 g h c d,hR 3190001 f 129 2 i,hR 3190002 e 3 1 b]/\R (.ptr 3100101 0) [hB 3100101 [.row 3190001 g,.row 3190002 h,aI c,aB d],hR 3190001 f 129 2 i,hR 3190002 e 3 1 b]) (R (.ptr 3100101 0) [hB 3100101 [.row 3190001 0,.row 3190002 0,aI 0,aB false],hR 3190001 0 129 2 [],hR 3190002 0 3 1 []])
def yS:=λa b c d e f=>PLift.up (by delta mC Fl AU M5;exact rfl:mC a b c d e f=_)
theorem AA9 (ba:LD)(no:LD)(pa:LD)(ro:Int)(ge:Int)(R:AV->Heap->Prop):Vc AD c31.body (Af c31 [(.agg [aL ba,aL no,aL pa,aI ro,aI ge])]) [] (Nh c31 R)=mC ba no pa ro ge R:=by kernel_rfl
abbrev jG (a:LD):=
 hR 9200305 0 4 1 (List.replicate (Int.toNat (a.length:Int)) (D.bool false))
abbrev eS (f g a:LD)(b i e j c:Int)(d:Nat)(h:Bool):=
 hB 9200307 [aL f,aL g,aL a,aI b,aI i,aI e,aI j,aI c,.row 9200305 d,aB h]
def rJ (c a e:LD)(b f:Int)(R:AV->Heap->Prop):Prop:=
 ∃m:Bool,Runs AD 67 [.agg (AU c a e b f)] [] (aB m) []/\Ae (Bool.not m) (R (.tup [.nilp,aI 1]) []) ((0:Int)<=(a.length:Int)/\((Int.toNat (a.length:Int)*1):Nat)<=140737488355328/\Ae (b != 0) (∃(q:Nat)(h i l r:LD)(k g j p t:Int)(s:Nat)(d:Bool),Runs AD 137 [.ptr 9200307 0,aI b,aI 1,aS Fl,aS Fl] [jG a,hB 9200307 [aL c,aL a,aL e,aI b,aI f,aI 0,aI 0,aI 0,.row 9200305 0,aB false]] (.tup []) [hR 9200305 q 4 1 h,Sf i l r k g j p t s d]/\Ae d (R (.tup [.nilp,aI 81]) []) (R (.tup [.ptr 9200307 0,aI 0]) [hR 9200305 q 4 1 h,eS i l r k g j p t s d])) (R (.tup [.ptr 9200307 0,aI 0]) [jG a,hB 9200307 [aL c,aL a,aL e,aI b,aI f,aI 0,aI 0,aI 0,.row 9200305 0,aB false]]))
def yB:=λa b c d e f=>PLift.up (by delta rJ Fl Sf jG eS AU;exact rfl:rJ a b c d e f=_)
theorem ABS (ba:LD)(no:LD)(pa:LD)(ro:Int)(ge:Int)(R:AV->Heap->Prop):Vc AD c92.body (Af c92 [(.agg [aL ba,aL no,aL pa,aI ro,aI ge])]) [] (Nh c92 R)=rJ ba no pa ro ge R:=by kernel_rfl
abbrev Gq:=
 Nat×Nat×Int×Bool×Unit
abbrev Km (a:Int)(b:LD):=
 (a:Int)<(b.length:Int)
abbrev Vp (a:Gq):=
 hB 3100101 [.row 3190001 a.1,.row 3190002 a.2.1,aI a.2.2.1,aB a.2.2.2.1]
abbrev Y4 (e:AV->Heap->Prop)(a:Gq)(b:Nat)(c:LD)(f:Nat)(d:LD):=
 e (.tup []) [hB 3100101 [.row 3190001 a.1,.row 3190002 a.2.1,aI a.2.2.1,aB true],hR 3190001 b 129 2 c,hR 3190002 f 3 1 d]
abbrev MS (b:Gq)(c:LD)(a:Int):=
 hR 3190002 (b.2.1+1) 3 1 (c++[D.int .i64 a])
abbrev O8 (b:Bool)(d a c:LD):=
 hB 7100708 [aB b,aL d,aL a,aL c]
abbrev LJ (a b:bA):=
 D.rcd [D.str a,D.str b]
abbrev MU (a:(Nat×LD)):=
 hR 3190001 (Prod.fst a) 129 2 (Prod.snd a)
abbrev F3 (a:Int):=
 aI (w6 (a+1))
abbrev dL (a:(Nat×LD)):=
 hR 3190002 (Prod.fst a) 3 1 (Prod.snd a)
abbrev Xx (b h a:LD)(o r n s:Int)(j k:bA)(i:Gq)(f q:(Nat×LD))(l t:Nat)(p:Int)(m:Bool)(c:Nat)(e:LD)(g:Nat)(d:LD):=
 Runs AD 71 [.ptr 3100101 0,.agg (AU b h a o r),aI n,F3 s,aS j,aS k] [Vp i,MU f,dL q] (.tup []) [M5 l t p m,hR 3190001 c 129 2 e,hR 3190002 g 3 1 d]
abbrev YG (i k:Nat)(a:Int)(b:Bool)(n:Nat)(h:LD)(o:Nat)(d e l c:LD)(m f:Int)(p:Bool)(j g q:LD)(r:Int):=
 rh [M5 i k a b,hR 3190001 n 129 2 h,hR 3190002 o 3 1 d,hB 7100000 (AU e l c m f),O8 p j g q,(7101006,.row true true 0 3 1 [D.int .i64 r])]
abbrev Yu (h:Int)(k g:bA)(e:LD)(a:Gq)(b c:(Nat×LD))(m n l:LD)(j r:Int)(o:Bool)(s q:LD)(p:Int)(i:(Int->(Gq->((Nat×LD)->((Nat×LD)->Prop)))))(d:Int)(f:(Int->(Gq->((Nat×LD)->((Nat×LD)->Nat))))):=
 rq (.ptr 3100101 0)/\rq (aI h)/\rq (aS k)/\rq (aS g)/\rq (.ptr 7100000 0)/\rq (.ptr 7100708 0)/\rq (aL e)/\GW e/\rh [Vp a,MU b,dL c,hB 7100000 (AU m n l j r),O8 o s q e,(7101006,.row true true 0 3 1 [D.int .i64 p])]/\i (w6 (d+1)) (a.1,a.2.1,a.2.2.1,a.2.2.2.1,()) (Prod.fst b,Prod.snd b) (Prod.fst c,Prod.snd c)/\((f (w6 (d+1)) (a.1,a.2.1,a.2.2.1,a.2.2.2.1,()) (Prod.fst b,Prod.snd b) (Prod.fst c,Prod.snd c)):Nat)<f d a b c
abbrev mP (e:Int)(p1:Nat)(j:Gq)(y:LD)(p4:Nat)(p5 l k p:LD)(m o:Int)(q:Bool)(d r f:LD)(t s:bA)(h:Int)(J:AV->Heap->Prop):=
 rn 0/\P6 e/\(((p1:Nat)=j.2.1/\rn 3)/\rn 1)/\(((List.length y+List.length [D.int .i64 e])*8):Nat)<=140737488355328/\∃(B:Int->Gq->Nat×LD->Prop)(A:Int->Gq->Nat×LD->Nat),(rh [hB 3100101 [.row 3190001 j.1,.row 3190002 (j.2.1+1),aI j.2.2.1,aB j.2.2.2.1],hR 3190001 p4 129 2 p5,MS j y e,hB 7100000 (AU l k p m o),O8 q d r f,(7101006,.row true true 0 3 1 [D.int .i64 e])]/\B 0 (j.1,j.2.1+1,j.2.2.1,j.2.2.2.1,()) (p4,p5))/\∀(i:Int)(a:Gq)(b:Nat×LD),B i a b->∀c5:Nat->AV,Ae (BK i d) (rn 1/\(0:Int)<=i/\∃b9:D,AW d i b9/\∃w:bA,Ci b9 w/\∃c4:Bool,Runs AD 118 [aS w,aS t,aS s] [] (aB c4) []/\Ae (Bool.not c4) (Ae q (rn 1/\(0:Int)<=i/\∃b8:D,AW r i b8/\∃E:bA,Ci b8 E/\rn 0/\(rn 2\/@Eq LD [LJ w E] [])/\((((Prod.fst b):Nat)=a.1/\rn 129)/\rn 2)/\(((Jn b+List.length [LJ w E])*32):Nat)<=140737488355328/\rq (.ptr 3100101 0)/\rq (aI h)/\rq (aS t)/\rq (aS s)/\rq (.ptr 7100000 0)/\rq (.ptr 7100708 0)/\rq (aL d)/\rq (aI (d.length:Int))/\rh [hB 3100101 [.row 3190001 (a.1+1),.row 3190002 a.2.1,aI a.2.2.1,aB true],hR 3190001 (a.1+1) 129 2 (Prod.snd b++[LJ w E]),MS j y e,hB 7100000 (AU l k p m o),O8 q d r f,(7101006,.row true true 0 3 1 [D.int .i64 e])]/\B (w6 (i+1)) (a.1+1,a.2.1,a.2.2.1,true,()) (a.1+1,Prod.snd b++[LJ w E])/\((A (w6 (i+1)) (a.1+1,a.2.1,a.2.2.1,true,()) (a.1+1,Prod.snd b++[LJ w E])):Nat)<A i a b) (rq (.ptr 3100101 0)/\rq (aI h)/\rq (aS t)/\rq (aS s)/\rq (.ptr 7100000 0)/\rq (.ptr 7100708 0)/\rq (aL d)/\rq (aI (d.length:Int))/\rh [hB 3100101 [.row 3190001 a.1,.row 3190002 a.2.1,aI a.2.2.1,aB true],MU b,MS j y e,hB 7100000 (AU l k p m o),O8 q d r f,(7101006,.row true true 0 3 1 [D.int .i64 e])]/\B (w6 (i+1)) (a.1,a.2.1,a.2.2.1,true,()) (Prod.fst b,Prod.snd b)/\((A (w6 (i+1)) (a.1,a.2.1,a.2.2.1,true,()) (Prod.fst b,Prod.snd b)):Nat)<A i a b)) (Ae q (rn 1/\(0:Int)<=i/\∃c2:D,AW r i c2/\∃C:bA,Ci c2 C/\rn 0/\(rn 2\/@Eq LD [LJ w C] [])/\((((Prod.fst b):Nat)=a.1/\rn 129)/\rn 2)/\(((Jn b+List.length [LJ w C])*32):Nat)<=140737488355328/\rq (.ptr 3100101 0)/\rq (aI h)/\rq (aS t)/\rq (aS s)/\rq (.ptr 7100000 0)/\rq (.ptr 7100708 0)/\rq (aL d)/\rq (aI (d.length:Int))/\rh [hB 3100101 [.row 3190001 (a.1+1),.row 3190002 a.2.1,aI a.2.2.1,aB a.2.2.2.1],hR 3190001 (a.1+1) 129 2 (Prod.snd b++[LJ w C]),MS j y e,hB 7100000 (AU l k p m o),O8 q d r f,(7101006,.row true true 0 3 1 [D.int .i64 e])]/\B (w6 (i+1)) (a.1+1,a.2.1,a.2.2.1,a.2.2.2.1,()) (a.1+1,Prod.snd b++[LJ w C])/\((A (w6 (i+1)) (a.1+1,a.2.1,a.2.2.1,a.2.2.2.1,()) (a.1+1,Prod.snd b++[LJ w C])):Nat)<A i a b) (rq (.ptr 3100101 0)/\rq (aI h)/\rq (aS t)/\rq (aS s)/\rq (.ptr 7100000 0)/\rq (.ptr 7100708 0)/\rq (aL d)/\rq (aI (d.length:Int))/\rh [Vp a,MU b,MS j y e,hB 7100000 (AU l k p m o),O8 q d r f,(7101006,.row true true 0 3 1 [D.int .i64 e])]/\B (w6 (i+1)) (a.1,a.2.1,a.2.2.1,a.2.2.2.1,()) (Prod.fst b,Prod.snd b)/\((A (w6 (i+1)) (a.1,a.2.1,a.2.2.1,a.2.2.2.1,()) (Prod.fst b,Prod.snd b)):Nat)<A i a b))) (Ae q (Ae (a.2.2.1 != 0) (Ae (a.2.2.1 != h) (J (.tup []) [hB 3100101 [.row 3190001 a.1,.row 3190002 a.2.1,aI h,aB true],MU b,MS j y e]) (J (.tup []) [hB 3100101 [.row 3190001 a.1,.row 3190002 a.2.1,aI h,aB a.2.2.2.1],MU b,MS j y e])) (J (.tup []) [hB 3100101 [.row 3190001 a.1,.row 3190002 a.2.1,aI h,aB a.2.2.2.1],MU b,MS j y e])) (∃(z:Int->Gq->Nat×LD->Nat×LD->Prop)(x:Int->Gq->Nat×LD->Nat×LD->Nat),(rh [Vp a,MU b,MS j y e,hB 7100000 (AU l k p m o),O8 q d r f,(7101006,.row true true 0 3 1 [D.int .i64 e])]/\z 0 (a.1,a.2.1,a.2.2.1,a.2.2.2.1,()) (Prod.fst b,Prod.snd b) (j.2.1+1,y++[D.int .i64 e]))/\∀(c:Int)(g:Gq)(v u:Nat×LD),z c g v u->∀c6:Nat->AV,Ae (BK c f) (rn 1/\(0:Int)<=c/\∃b6:D,AW f c b6/\∃F:Int,((D.cells b6)[0]?=some (D.int .i64 F))/\Ae (decide (c > 0)) (rn 1/\(0:Int)<=w6 (c-1)/\∃c1:D,QX d c c1/\∃b4:bA,Ci c1 b4/\Ae (BK c d) (rn 1/\(0:Int)<=c/\∃c3:D,AW d c c3/\∃c0:bA,Ci c3 c0/\Ae (Bool.not g.2.2.2.1) (∃(a4 M:Nat)(a0:Int)(a8:Bool)(I:Nat)(H:LD)(N:Nat)(Q:LD),Xx l k p m o F h b4 c0 g v u a4 M a0 a8 I H N Q/\rq (.ptr 3100101 0)/\rq (aI h)/\rq (aS t)/\rq (aS s)/\rq (.ptr 7100000 0)/\rq (.ptr 7100708 0)/\rq (aL f)/\GW f/\YG a4 M a0 a8 I H N Q l k p m o q d r f e/\z (w6 (c+1)) (a4,M,a0,a8,()) (I,H) (N,Q)/\((x (w6 (c+1)) (a4,M,a0,a8,()) (I,H) (N,Q)):Nat)<x c g v u) (Yu h t s f g v u l k p m o q d r e z c x)) (Ae (Bool.not g.2.2.2.1) (∃(P Y:Nat)(S:Int)(W:Bool)(L:Nat)(a2:LD)(O:Nat)(T:LD),Xx l k p m o F h b4 s g v u P Y S W L a2 O T/\rq (.ptr 3100101 0)/\rq (aI h)/\rq (aS t)/\rq (aS s)/\rq (.ptr 7100000 0)/\rq (.ptr 7100708 0)/\rq (aL f)/\GW f/\YG P Y S W L a2 O T l k p m o q d r f e/\z (w6 (c+1)) (P,Y,S,W,()) (L,a2) (O,T)/\((x (w6 (c+1)) (P,Y,S,W,()) (L,a2) (O,T)):Nat)<x c g v u) (Yu h t s f g v u l k p m o q d r e z c x))) (Ae (BK c d) (rn 1/\(0:Int)<=c/\∃b5:D,AW d c b5/\∃b7:bA,Ci b5 b7/\Ae (Bool.not g.2.2.2.1) (∃(U G:Nat)(Z:Int)(a5:Bool)(V:Nat)(b0:LD)(a9:Nat)(a6:LD),Xx l k p m o F h t b7 g v u U G Z a5 V b0 a9 a6/\rq (.ptr 3100101 0)/\rq (aI h)/\rq (aS t)/\rq (aS s)/\rq (.ptr 7100000 0)/\rq (.ptr 7100708 0)/\rq (aL f)/\GW f/\YG U G Z a5 V b0 a9 a6 l k p m o q d r f e/\z (w6 (c+1)) (U,G,Z,a5,()) (V,b0) (a9,a6)/\((x (w6 (c+1)) (U,G,Z,a5,()) (V,b0) (a9,a6)):Nat)<x c g v u) (Yu h t s f g v u l k p m o q d r e z c x)) (Ae (Bool.not g.2.2.2.1) (∃(X a3:Nat)(b3:Int)(b2:Bool)(a1:Nat)(a7:LD)(b1:Nat)(K:LD),Xx l k p m o F h t s g v u X a3 b3 b2 a1 a7 b1 K/\rq (.ptr 3100101 0)/\rq (aI h)/\rq (aS t)/\rq (aS s)/\rq (.ptr 7100000 0)/\rq (.ptr 7100708 0)/\rq (aL f)/\GW f/\YG X a3 b3 b2 a1 a7 b1 K l k p m o q d r f e/\z (w6 (c+1)) (X,a3,b3,b2,()) (a1,a7) (b1,K)/\((x (w6 (c+1)) (X,a3,b3,b2,()) (a1,a7) (b1,K)):Nat)<x c g v u) (Yu h t s f g v u l k p m o q d r e z c x)))) (J (.tup []) [hB 3100101 [.row 3190001 g.1,.row 3190002 g.2.1,aI g.2.2.1,aB g.2.2.2.1],MU v,dL u])))
def lW (e g i:LD)(j k h f:Int)(o p:bA)(d b:Nat)(u:Int)(v:Bool)(P B:LD)(R:AV->Heap->Prop):Prop:=
 rn b/\∃(n:Int->Gq->Prop)(q:Int->Gq->Nat),(rh [M5 d b u v,hR 3190001 d 129 2 P,hR 3190002 b 3 1 B,hB 7100000 (AU e g i j k)]/\n 0 (d,b,u,v,()))/\∀(c:Int)(a:Gq),n c a->∀y:Nat->AV,Ae (BK c B) ((rn b/\rn 1)/\(0:Int)<=c/\Km c B/\(rn b/\rn 1)/\∃w:D,AW B c w/\∃t:Int,((D.cells w)[0]?=some (D.int .i64 t))/\Ae (t==h) (rq (.ptr 3100101 0)/\rq (aI h)/\rq (aI f)/\rq (aS o)/\rq (aS p)/\rq (.ptr 7100000 0)/\rq (.row 3190002 b)/\rq (aI (B.length:Int))/\rh [hB 3100101 [.row 3190001 a.1,.row 3190002 a.2.1,aI a.2.2.1,aB true],hR 3190001 d 129 2 P,hR 3190002 b 3 1 B,hB 7100000 (AU e g i j k)]/\n (w6 (c+1)) (a.1,a.2.1,a.2.2.1,true,())/\((q (w6 (c+1)) (a.1,a.2.1,a.2.2.1,true,())):Nat)<q c a) (rq (.ptr 3100101 0)/\rq (aI h)/\rq (aI f)/\rq (aS o)/\rq (aS p)/\rq (.ptr 7100000 0)/\rq (.row 3190002 b)/\rq (aI (B.length:Int))/\rh [Vp a,hR 3190001 d 129 2 P,hR 3190002 b 3 1 B,hB 7100000 (AU e g i j k)]/\n (w6 (c+1)) (a.1,a.2.1,a.2.2.1,a.2.2.2.1,())/\((q (w6 (c+1)) (a.1,a.2.1,a.2.2.1,a.2.2.2.1,())):Nat)<q c a)) (∃(l:Bool)(m r s:LD)(x:Bool),Runs AD 117 [.agg (AU e g i j k),aI h,aB (f==1)] [] (.tup [Bf l m r s,aB x]) []/\Ae a.2.2.2.1 (Y4 R a d P b B) (Ae (Bool.not x) (Y4 R a d P b B) (Ae (decide (f > 8)) (Y4 R a d P b B) (Ae l (Ae ((m.length:Int)==0) (Y4 R a d P b B) (mP h b a B d P e g i j k l m r s o p f R)) (mP h b a B d P e g i j k l m r s o p f R)))))
def AA0:=λa b c d e f g h i j k l m n o p=>PLift.up (by delta lW O8 P6 Bf Gq M5 BK Xx mP dL Yu AU GW YG LJ Ci QX Y4 Vp F3 Km AW Jn MS MU;exact rfl:lW a b c d e f g h i j k l m n o p=_)
theorem yT (ba:LD)(no:LD)(pa:LD)(ro:Int)(ge:Int)(block:Int)(deep:Int)(low:bA)(high:bA)(va:Nat)(vb:Nat)(he:Int)(bad:Bool)(P:LD)(B:LD)(R:AV->Heap->Prop):Vc AD c71.body (Af c71 [.ptr 3100101 0,(.agg [aL ba,aL no,aL pa,aI ro,aI ge]),aI block,aI deep,aS low,aS high]) [(3100101,.box [.row 3190001 va,.row 3190002 vb,aI he,aB bad]),(3190001,.row false false va 129 2 P),(3190002,.row false false vb 3 1 B)] (AP c71 [(3100101,.box [.row 3190001 va,.row 3190002 vb,aI he,aB bad]),(3190001,.row false false va 129 2 P),(3190002,.row false false vb 3 1 B)] R)=lW ba no pa ro ge block deep low high va vb he bad P B R:=by kernel_rfl
abbrev ZA (h:AV->Heap->Prop)(a:Nat)(b c j g:LD)(k e f i d:Int):=
 h (.tup []) [hR 9200305 a 4 1 b,hB 9200307 [aL c,aL j,aL g,aI k,aI e,aI f,aI i,aI d,.row 9200305 a,aB true]]
abbrev I6 (a:Nat):=
 ((rn a/\rn 0)/\rn 1)/\rn 1
abbrev OG (a:Int)(b:LD):=
 ((Int.toNat a):Nat)<List.length b
abbrev U0 (b:Nat)(c:LD)(a:Int):=
 hR 9200305 b 4 1 (List.set c (Int.toNat a) (D.bool true))
abbrev eM (a:Int)(b:LD):AV:=
 aI (w6 (a+(b.length:Int)))
abbrev Q0:=
 LD×LD×LD×Int×Int×Int×Int×Int×Nat×Bool×Unit
abbrev W8 (j l:Int)(c d:bA)(b:(Nat×LD))(a:Q0)(o:Nat)(f g m e:LD)(n h p k i:Int)(q:Nat)(r:Bool):=
 Runs AD 137 [.ptr 9200307 0,aI j,F3 l,aS c,aS d] [hR 9200305 (Prod.fst b) 4 1 (Prod.snd b),hB 9200307 [aL a.1,aL a.2.1,aL a.2.2.1,aI a.2.2.2.1,aI a.2.2.2.2.1,aI a.2.2.2.2.2.1,aI a.2.2.2.2.2.2.1,aI a.2.2.2.2.2.2.2.1,.row 9200305 a.2.2.2.2.2.2.2.2.1,aB a.2.2.2.2.2.2.2.2.2.1]] (.tup []) [hR 9200305 o 4 1 f,Sf g m e n h p k i q r]
abbrev Zi (a:Bool)(x:AV->Heap->Prop)(b:Nat)(i k h l:LD)(e f d c j:Int)(g:Nat)(z:Int)(o:LD)(y s:bA)(u:Bool)(w t:LD)(q:(Int->(Q0->((Nat×LD)->Prop))))(m:Int)(p:(Int->(Q0->((Nat×LD)->Nat))))(v:Q0)(r:(Nat×LD)):=
 Ae a (x (.tup []) [hR 9200305 b 4 1 i,eS k h l e f d c j g a]) (rq (.ptr 9200307 0)/\rq (aI z)/\rq (.ptr 13700000 0)/\rq (.ptr 13700001 0)/\rq (.ptr 13700111 0)/\rq (.n (D.sl 1 o))/\rq (aI (o.length:Int))/\rh [hR 9200305 b 4 1 i,Sf k h l e f d c j g a,hB 13700000 [aS y],hB 13700001 [aS s],hB 13700111 [aB u,.n (D.sl 1 w),.n (D.sl 1 t),.n (D.sl 1 o)]]/\q (w6 (m+1)) (k,h,l,e,f,d,c,j,g,a,()) (b,i)/\((p (w6 (m+1)) (k,h,l,e,f,d,c,j,g,a,()) (b,i)):Nat)<p m v r)
abbrev mZ (c:Nat)(i:Int)(k d:LD)(g j:bA)(h:AV->Heap->Prop)(m t q:LD)(s p u z w:Int)(v B:Bool)(e:Int)(x l:LD):=
 (rn c/\rn 1)/\(0:Int)<=i/\Km i k/\I6 c/\OG i k/\∃x7:Bool,Runs AD 111 [aL d,.fn 172 Ut] [hB 13700000 [aS g],hB 13700001 [aS j]] (aB x7) [hB 13700000 [aS g],hB 13700001 [aS j]]/\Ae x7 (h (.tup []) [U0 c k i,hB 9200307 [aL m,aL t,aL q,aI s,aI p,aI u,aI z,K0 w,.row 9200305 c,aB true]]) (Ae v (Ae B (h (.tup []) [U0 c k i,hB 9200307 [aL m,aL t,aL q,aI s,aI p,eM u d,aI e,K0 w,.row 9200305 c,aB true]]) (Ae (z != 0) (h (.tup []) [U0 c k i,hB 9200307 [aL m,aL t,aL q,aI s,aI p,eM u d,aI e,K0 w,.row 9200305 c,aB (z != e)]]) (h (.tup []) [U0 c k i,hB 9200307 [aL m,aL t,aL q,aI s,aI p,eM u d,aI e,K0 w,.row 9200305 c,aB false]]))) (∃(r:Int->Q0->Nat×LD->Prop)(A:Int->Q0->Nat×LD->Nat),(rh [U0 c k i,hB 9200307 [aL m,aL t,aL q,aI s,aI p,aI u,aI z,F3 w,.row 9200305 c,aB B],hB 13700000 [aS g],hB 13700001 [aS j],hB 13700111 [aB v,.n (D.sl 1 d),.n (D.sl 1 x),.n (D.sl 1 l)]]/\r 0 (m,t,q,s,p,u,z,w6 (w+1),c,B,()) (c,List.set k (Int.toNat i) (D.bool true)))/\∀(b:Int)(a:Q0)(f:Nat×LD),r b a f->∀d3:Nat->AV,Ae (BK b l) (rn 1/\(0:Int)<=b/\∃P:D,AW l b P/\∃y:Int,((D.cells P)[0]?=some (D.int .i64 y))/\Ae (decide (b > 0)) (rn 1/\(0:Int)<=w6 (b-1)/\∃d0:D,QX d b d0/\∃C:bA,Ci d0 C/\Ae (BK b d) (rn 1/\(0:Int)<=b/\∃V:D,AW d b V/\∃J:bA,Ci V J/\∃(c8:Nat)(O b0 b8 I:LD)(a8 X Y U c4:Int)(a5:Nat)(c6:Bool),W8 y e C J f a c8 O b0 b8 I a8 X Y U c4 a5 c6/\Zi c6 h c8 O b0 b8 I a8 X Y U c4 a5 e l g j v d x r b A a f) (∃(L:Nat)(d1 a6 a1 b9:LD)(a0 b7 N b3 c3:Int)(H:Nat)(F:Bool),W8 y e C j f a L d1 a6 a1 b9 a0 b7 N b3 c3 H F/\Zi F h L d1 a6 a1 b9 a0 b7 N b3 c3 H e l g j v d x r b A a f)) (Ae (BK b d) (rn 1/\(0:Int)<=b/\∃Q:D,AW d b Q/\∃W:bA,Ci Q W/\∃(T:Nat)(b1 Z a7 K:LD)(b4 S a2 G M:Int)(a3:Nat)(E:Bool),W8 y e g W f a T b1 Z a7 K b4 S a2 G M a3 E/\Zi E h T b1 Z a7 K b4 S a2 G M a3 e l g j v d x r b A a f) (∃(b2:Nat)(c0 a4 c7 c5:LD)(c1 a9 b6 d2 c9:Int)(b5:Nat)(c2:Bool),W8 y e g j f a b2 c0 a4 c7 c5 c1 a9 b6 d2 c9 b5 c2/\Zi c2 h b2 c0 a4 c7 c5 c1 a9 b6 d2 c9 b5 e l g j v d x r b A a f))) (h (.tup []) [hR 9200305 (Prod.fst f) 4 1 (Prod.snd f),hB 9200307 [aL a.1,aL a.2.1,aL a.2.2.1,aI a.2.2.2.1,aI a.2.2.2.2.1,aI a.2.2.2.2.2.1,aI a.2.2.2.2.2.2.1,aI a.2.2.2.2.2.2.2.1,.row 9200305 a.2.2.2.2.2.2.2.2.1,aB a.2.2.2.2.2.2.2.2.2.1]])))
def Zb (a b c:LD)(d e h j:Int)(q r:bA)(v:Nat)(U:LD)(g f i:Int)(s:Bool)(R:AV->Heap->Prop):Prop:=
 ∃(k:Bool)(l m n:LD)(p:Int),Runs AD 171 [.agg (AU a b c d e),aI h,aB (j==1)] [] (.tup [Im k l m n,aI p]) []/\Ae (p != 0) (ZA R v U a b c d e g f i) (Ae (decide (j > 8)) (ZA R v U a b c d e g f i) ((rn v/\rn 1)/\(0:Int)<=h/\Km h U/\(rn v/\rn 1)/\∃t:D,AW U h t/\∃o:Bool,Dt t o/\Ae o (ZA R v U a b c d e g f i) (Ae k (Ae ((l.length:Int)==0) (ZA R v U a b c d e g f i) (mZ v h U l q r R a b c d e g f i k s j m n)) (mZ v h U l q r R a b c d e g f i k s j m n))))
def oA:=λa b c d e f g h i j k l m n o p=>PLift.up (by delta Zb OG Ut BK W8 U0 eS eM AU ZA I6 Ci Dt QX F3 Km Zi K0 Sf AW mZ Im Q0;exact rfl:Zb a b c d e f g h i j k l m n o p=_)
theorem nO (ba:LD)(no:LD)(pa:LD)(ro:Int)(ge:Int)(block:Int)(deep:Int)(low:bA)(high:bA)(v:Nat)(U:LD)(np:Int)(he:Int)(nb:Int)(bad:Bool)(R:AV->Heap->Prop):Vc AD c137.body (Af c137 [.ptr 9200307 0,aI block,aI deep,aS low,aS high]) [(9200305,.row false false v 4 1 U),(9200307,.box [aL ba,aL no,aL pa,aI ro,aI ge,aI np,aI he,aI nb,.row 9200305 v,aB bad])] (AP c137 [(9200305,.row false false v 4 1 U),(9200307,.box [aL ba,aL no,aL pa,aI ro,aI ge,aI np,aI he,aI nb,.row 9200305 v,aB bad])] R)=Zb ba no pa ro ge block deep low high v U np he nb bad R:=by kernel_rfl
def V30 (b d:LD)(R:AV->Prop):Prop:=
 Ae (HX b d) (R (.n (.bool false))) (∃(f:Int->Prop)(i:Int->Nat),(rh []/\f 0)/\∀a:Int,f a->∀l:Nat->AV,Ae (BK a b) (rn 2/\(0:Int)<=a/\∃e:D,AW b a e/\∃(j h:bA),@Eq LD (List.take 2 (D.cells e)) [D.str j,D.str h]/\VZ e/\rn 2/\(0:Int)<=a/\∃c:D,AW d a c/\∃(g k:bA),@Eq LD (List.take 2 (D.cells c)) [D.str g,D.str k]/\VZ c/\Ae (Bool.not (KM j g&&(KM h k&&true))) (R (.n (.bool false))) (rq (.o (D.sl 2 b))/\rq (.o (D.sl 2 d))/\rq (aI (b.length:Int))/\rh []/\f (w6 (a+1))/\((i (w6 (a+1))):Nat)<i a)) (R (.n (.bool true))))
def AGK:=λa b c=>PLift.up (by delta V30 HX VZ KM AW BK;exact rfl:V30 a b c=_)
theorem AEu a b R:Vc AD c30.body (Af c30 [(.o (.sl 2 a)),(.o (.sl 2 b))]) [] (Av c30 R)=V30 a b R:=by kernel_rfl
end Go.Proofs.YtegndijbpiccgaaGreatDoor.M
