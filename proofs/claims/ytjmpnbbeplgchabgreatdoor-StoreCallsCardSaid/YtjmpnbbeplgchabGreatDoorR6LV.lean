import Derived.Test.YtjmpnbbeplgchabGreatDoorR6L
import Derived.Test.YtjmpnbbeplgchabGreatDoorR6FunB
namespace Go.Proofs.YtjmpnbbeplgchabGreatDoor.M
set_option linter.unusedVariables false
set_option linter.unusedSimpArgs false
open Go Go.Mir
abbrev BI (a c d:LD)(e b:Int):List AV:=
 [aL a,aL c,aL d,aI e,aI b]
abbrev Bt (a c d:LD)(e b:Int):AV:=
 .agg (BI a c d e b)
abbrev IQ:AV:=
 .agg [aB false,.n (D.sl 1 []),.n (D.sl 1 []),.n (D.sl 1 [])]
abbrev HY (b:Bool)(a d c:LD):AV:=
 .agg [aB b,.n (D.sl 1 a),.n (D.sl 1 d),.n (D.sl 1 c)]
abbrev VC (b:Bool)(a d c:LD):AV:=
 .agg [aB b,.n (D.sl 1 a),.n (D.sl 1 d),.n (D.sl 1 c)]
def pN (a f i:LD)(b d p:Int)(y:Bool)(R:AV->Prop):Prop:=
 ∃j:Bool,Runs AG 46 [Bt a f i b d] [] (aB j) []/\Ae (Bool.not j) (R (.tup [IQ,aI 1])) (∃(e:Bool)(c h g:LD)(k:Bool)(o m t:LD)(w q:Int)(l:bA)(s x:Int)(r:bA)(u v:Bool),Runs AG 192 [.ptr 15500302 0,aI p,aB y] [hB 15500302 [aL a,aL f,aL i,aI b,aI d,aS EE,aI 0,aI 0,.n D.nil,aS EE,aB false,aB false]] (.tup [HY e c h g,aB k]) [hB 15500302 [aL o,aL m,aL t,aI w,aI q,aS l,aI s,aI x,.n D.nil,aS r,aB u,aB v]]/\Ae (Bool.not k) (R (.tup [IQ,aI 81])) (R (.tup [VC e c h g,aI 0])))
def yZ:=λa b c d e f g h=>PLift.up (by delta pN EE VC BI IQ HY Bt;exact rfl:pN a b c d e f g h=_)
theorem ACK a f c b d e g R:Vc AG c155.body (Af c155 [(.agg [aL a,aL f,aL c,aI b,aI d]),aI e,aB g]) [] (Aq c155 R)=pN a f c b d e g R:=by kernel_rfl
abbrev Hr (b a:LD):List AV:=
 [.agg [aL b,aL a]]
abbrev oN (c:LD)(b:AV->Prop):=
 ∃a:Bool,Runs AG 83 [aL c,.fn 84 []] [] (aB a) []/\b (.n (.bool (Bool.not a)))
def V46 (f b c:LD)(a d:Int)(R:AV->Prop):Prop:=
 ∃e:Bool,Runs AG 82 (Hr f b) [] (aB e) []/\Ae (Bool.not e) (R (.n (.bool false))) (Ae (H5 c b) (R (.n (.bool false))) (Ae (decide (d<1)) (R (.n (.bool false))) (Ae (decide (d > 1099511627776)) (R (.n (.bool false))) (Ae (a != 0) (Ae (decide (a<10)) (R (.n (.bool false))) (Ae (Jq a b) (R (.n (.bool false))) (oN c R))) (oN c R)))))
def AFp:=λa b c d e f=>PLift.up (by delta V46 oN H5 Jq Hr;exact rfl:V46 a b c d e f=_)
theorem AIk a e c b d R:Vc AG c46.body (Af c46 [(.agg [aL a,aL e,aL c,aI b,aI d])]) [] (Aq c46 R)=V46 a e c b d R:=by kernel_rfl
abbrev FF:AV:=
 .agg [aB false,aL [],aL [],aL []]
abbrev OU (a:AV->Prop):=
 a (.tup [FF,aB false])
abbrev Dt (b:D)(a:Bool):=
 ((D.cells b)[0]?=some (D.bool a))
abbrev Bj (b:Bool)(a d c:LD):AV:=
 .agg [aB b,aL a,aL d,aL c]
abbrev L5 (b:Bool)(a d c:LD):AV:=
 .agg [aB b,aL a,aL d,aL c]
def sE (u j o:LD)(v s a:Int)(t:Bool)(R:AV->Prop):Prop:=
 Ae (decide (a<10)) (OU R) (Ae (Jq a j) (OU R) (Ae (Jq a o) (OU R) (rn 1/\(0:Int)<=a/\∃p:D,AX j a p/\∃i:Bool,Dt p i/\Ae (Bool.not i) (OU R) (rn 1/\(0:Int)<=a/\∃g:D,AX o a g/\∃m:bA,B7 g m/\∃(k q:Int)(h:bA)(f:Int),Runs AG 148 [aS m] [] (Wt k q h f) []/\Ae (f != 0) (OU R) (Ae (decide (q > s)) (OU R) (∃(d:Bool)(e c b:LD)(l:Int),Runs AG 149 [aI k,aS h] [] (.tup [Bj d e c b,aI l]) []/\Ae (l != 0) (OU R) (∃r:Bool,Runs AG 150 [Bj d e c b,aB t] [] (aB r) []/\Ae (Bool.not r) (OU R) (R (.tup [L5 d e c b,aB true])))))))))
def ACZ:=λa b c d e f g h=>PLift.up (by delta sE Dt Jq AX Bj L5 Wt FF B7 OU;exact rfl:sE a b c d e f g h=_)
theorem ACH a f c b d e g R:Vc AG c112.body (Af c112 [(.agg [aL a,aL f,aL c,aI b,aI d]),aI e,aB g]) [] (Aq c112 R)=sE a f c b d e g R:=by kernel_rfl
abbrev IN (a:Int):AV:=
 aI (wI (a+1))
def sT (b:Bool)(f g d:LD)(e:bA)(R:AV->Prop):Prop:=
 Ae b (R (.n (.int .i64 0))) (∃(a:Int)(c:Bool),Runs AG 128 [Bj b f g d,aS e] [] (.tup [aI a,aB c]) []/\Ae c (R (IN a)) (R (.n (.int .i64 a))))
def vD:=λa b c d e f=>PLift.up (by delta sT Bj IN;exact rfl:sT a b c d e f=_)
theorem AAA a e c b d R:Vc AG c131.body (Af c131 [(.agg [aB a,aL e,aL c,aL b]),aS d]) [] (Aq c131 R)=sT a e c b d R:=by kernel_rfl
def pY (g:Bool)(b i h:LD)(f:bA)(R:AV->Prop):Prop:=
 ∃d:Bool,Runs AG 160 [Bj g b i h] [] (aB d) []/\Ae (Bool.not d) (R (.tup [aI 0,aB false])) (∃a:Int,Runs AG 161 [aL b,aS f] [] (aI a) []/\Ae (Bw a b) (rn 1/\(0:Int)<=a/\∃e:D,AX b a e/\∃c:bA,B7 e c/\R (.tup [aI a,aB (KE c f)])) (R (.tup [aI a,aB false])))
def ABn:=λa b c d e f=>PLift.up (by delta pY AX Bj Bw KE B7;exact rfl:pY a b c d e f=_)
theorem AAF a e c b d R:Vc AG c128.body (Af c128 [(.agg [aB a,aL e,aL c,aL b]),aS d]) [] (Aq c128 R)=pY a e c b d R:=by kernel_rfl
abbrev SG (a:LD):=
 (10:Int)<=(a.length:Int)
abbrev lC (a:LD):=
 D.sl 1 (List.drop 0 (List.take (Int.toNat 10) a))
def V82 (b a:LD)(R:AV->Prop):Prop:=
 Ae (H5 b a) (R (.n (.bool false))) (Ae (decide ((a.length:Int)<24)) (R (.n (.bool false))) (Ae (jA a) (R (.n (.bool false))) (rn 1/\(0:Int)<=10/\SG b/\rn 1/\(0:Int)<=10/\SG a/\0=0/\∃c:Int,Runs AG 122 [aL [lC b,lC a]] [] (aI c) []/\R (.n (.bool (c==10))))))
def AD9:=λa b c=>PLift.up (by delta V82 lC jA H5 SG;exact rfl:V82 a b c=_)
theorem AI5 a b R:Vc AG c82.body (Af c82 [(.agg [aL a,aL b])]) [] (Aq c82 R)=V82 a b R:=by kernel_rfl
abbrev Wa:=
 Unit×Unit×Unit
abbrev Y3:=
 Bool×Unit×Wa
abbrev Kj:=
 Bool×Nat×Nat×Nat×Unit
abbrev cA:=
 Kj->Nat×LD->Nat×LD->Nat×LD->Prop
abbrev fS:=
 Kj->Nat×LD->Nat×LD->Nat×LD->Nat
abbrev Vl:List AV:=
 [aB false,.n D.nil,.n D.nil,.n D.nil]
abbrev QR (b:AV->Prop)(a:Int):=
 b (.tup [FF,aI a])
abbrev Ry (a:Int):=
 rn 1\/@Eq LD [D.int .i64 a] []
abbrev Uy (b:(Nat×LD))(a:Kj):=
 (((Prod.fst b):Nat)=a.2.2.2.1/\rn 3)/\rn 1
abbrev Zv (a:bA)(c:Int)(d:bA)(e b:Int):=
 Runs AG 189 [aS a,aI c] [] (.tup [aS d,aI e,aI b]) []
abbrev VB (b:(Nat×LD))(a:Kj):=
 (((Prod.fst b):Nat)=a.2.1/\rn 9)/\rn 1
abbrev X7 (a:Y3):=
 hB 14900000 [aB a.1,.n D.nil,.n D.nil,.n D.nil]
abbrev Xi (a:AV->Prop):=
 a (.tup [FF,aI 4])
abbrev Vr (a:Kj):=
 a.2.2.2.1+1=a.2.2.2.1+1
abbrev oW (f:Int)(d:AV->Prop)(h:Int)(i:bA)(c:(Nat×LD))(a:Kj)(b e:(Nat×LD)):=
 Ae (f != 0) (QR d f) (Ae (h != (((ByteArray.size i):Nat):Int)) (Xi d) (Prod.fst c=a.2.1/\Prod.fst b=a.2.2.1/\Prod.fst e=a.2.2.2.1/\∃g:Bool,Runs AG 150 [.agg [aB a.1,aL (Prod.snd c),aL (Prod.snd b),aL (Prod.snd e)],aB true] [] (aB g) []/\Ae (Bool.not g) (Xi d) (Prod.fst c=a.2.1/\Prod.fst b=a.2.2.1/\Prod.fst e=a.2.2.2.1/\d (.tup [.agg [aB a.1,aL (Prod.snd c),aL (Prod.snd b),aL (Prod.snd e)],aI 0]))))
abbrev nJ (m i:Int)(g:bA)(j:Int)(c:(Nat×LD))(a:Kj)(b:AV->Prop)(d e:(Nat×LD)):=
 Ae (m==2) (Ae (i==0) (∃(f k h:Int),Runs AG 186 [aS g,aI j,aI 2] [] (Kw f k h) []/\rn 0/\Ry f/\Uy c a/\(((Hq c+List.length [D.int .i64 f])*8):Nat)<=140737488355328/\Ae (h != 0) (QR b h) (Ae (k != (((ByteArray.size g):Nat):Int)) (Xi b) (Prod.fst d=a.2.1/\Prod.fst e=a.2.2.1/\Vr a/\∃l:Bool,Runs AG 150 [.agg [aB a.1,aL (Prod.snd d),aL (Prod.snd e),aL (Prod.snd c++[D.int .i64 f])],aB true] [] (aB l) []/\Ae (Bool.not l) (Xi b) (Prod.fst d=a.2.1/\Prod.fst e=a.2.2.1/\Vr a/\b (.tup [.agg [aB a.1,aL (Prod.snd d),aL (Prod.snd e),aL (Prod.snd c++[D.int .i64 f])],aI 0]))))) (oW i b j g d a e c)) (oW i b j g d a e c)
abbrev mU (g:bA)(h:Int)(o:AV->Prop):=
 ∃(r E m:Int),Runs AG 186 [aS g,aI 0,aI 1] [] (Kw r E m) []/\∃(q:Int->Int->Y3->cA)(n:Int->Int->Y3->fS),(rh [hB 14900000 Vl,hB 14900303 [aB (h==1),.row 14901704 0,.row 14902304 0,.row 14901204 0],(14901204,.row false true 0 3 1 []),(14901704,.row false true 0 9 1 []),(14902304,.row false true 0 9 1 [])]/\q E 0 (false,(),(),(),()) (h==1,0,0,0,()) (0,[]) (0,[]) (0,[]))/\∀(k f:Int)(e:Y3)(a:Kj)(d b c:Nat×LD),q k f e a d b c->∀F:Nat->AV,Ae (decide (f<r)) (Ae (m==0) (Ae (h==2) (∃(j C v:Int),Runs AG 186 [aS g,aI k,aI 2] [] (Kw j C v) []/\Ae (v != 0) (QR o v) (rn 0/\Ry j/\Uy c a/\(((Hq c+List.length [D.int .i64 j])*8):Nat)<=140737488355328/\∃(i:bA)(u z:Int),Zv g C i u z/\Ae (z != 0) (QR o z) (rn 0/\Lg i/\VB d a/\Mp d i/\Ae (h==1) (∃(s:bA)(A w:Int),Zv g u s A w/\Ae (w != 0) (QR o w) (rn 0/\Lg s/\((((Prod.fst b):Nat)=a.2.2.1/\rn 9)/\rn 1)/\Mp b s/\rq (aI h)/\rq (aS g)/\rq (.ptr 14900000 0)/\rq (.ptr 14900303 0)/\rq (aI r)/\rq (aI m)/\rh [X7 e,hB 14900303 [aB a.1,.row 14901704 (a.2.1+1),.row 14902304 (a.2.2.1+1),.row 14901204 (a.2.2.2.1+1)],(14901204,.row false true (a.2.2.2.1+1) 3 1 (Prod.snd c++[D.int .i64 j])),(14901704,.row false true (a.2.1+1) 9 1 (CL d i)),(14902304,.row false true (a.2.2.1+1) 9 1 (CL b s))]/\q A (wI (f+1)) (e.1,(),(),(),()) (a.1,a.2.1+1,a.2.2.1+1,a.2.2.2.1+1,()) (a.2.1+1,CL d i) (a.2.2.1+1,CL b s) (a.2.2.2.1+1,Prod.snd c++[D.int .i64 j])/\((n A (wI (f+1)) (e.1,(),(),(),()) (a.1,a.2.1+1,a.2.2.1+1,a.2.2.2.1+1,()) (a.2.1+1,CL d i) (a.2.2.1+1,CL b s) (a.2.2.2.1+1,Prod.snd c++[D.int .i64 j])):Nat)<n k f e a d b c)) (rq (aI h)/\rq (aS g)/\rq (.ptr 14900000 0)/\rq (.ptr 14900303 0)/\rq (aI r)/\rq (aI m)/\rh [X7 e,hB 14900303 [aB a.1,.row 14901704 (a.2.1+1),.row 14902304 a.2.2.1,.row 14901204 (a.2.2.2.1+1)],(14901204,.row false true (a.2.2.2.1+1) 3 1 (Prod.snd c++[D.int .i64 j])),(14901704,.row false true (a.2.1+1) 9 1 (CL d i)),(14902304,.row false true (Prod.fst b) 9 1 (Prod.snd b))]/\q u (wI (f+1)) (e.1,(),(),(),()) (a.1,a.2.1+1,a.2.2.1,a.2.2.2.1+1,()) (a.2.1+1,CL d i) (Prod.fst b,Prod.snd b) (a.2.2.2.1+1,Prod.snd c++[D.int .i64 j])/\((n u (wI (f+1)) (e.1,(),(),(),()) (a.1,a.2.1+1,a.2.2.1,a.2.2.2.1+1,()) (a.2.1+1,CL d i) (Prod.fst b,Prod.snd b) (a.2.2.2.1+1,Prod.snd c++[D.int .i64 j])):Nat)<n k f e a d b c)))) (∃(l:bA)(t y:Int),Zv g k l t y/\Ae (y != 0) (QR o y) (rn 0/\Lg l/\VB d a/\Mp d l/\Ae (h==1) (∃(p:bA)(B x:Int),Zv g t p B x/\Ae (x != 0) (QR o x) (rn 0/\Lg p/\((((Prod.fst b):Nat)=a.2.2.1/\rn 9)/\rn 1)/\Mp b p/\rq (aI h)/\rq (aS g)/\rq (.ptr 14900000 0)/\rq (.ptr 14900303 0)/\rq (aI r)/\rq (aI m)/\rh [X7 e,hB 14900303 [aB a.1,.row 14901704 (a.2.1+1),.row 14902304 (a.2.2.1+1),.row 14901204 a.2.2.2.1],(14901204,.row false true (Prod.fst c) 3 1 (Prod.snd c)),(14901704,.row false true (a.2.1+1) 9 1 (CL d l)),(14902304,.row false true (a.2.2.1+1) 9 1 (CL b p))]/\q B (wI (f+1)) (e.1,(),(),(),()) (a.1,a.2.1+1,a.2.2.1+1,a.2.2.2.1,()) (a.2.1+1,CL d l) (a.2.2.1+1,CL b p) (Prod.fst c,Prod.snd c)/\((n B (wI (f+1)) (e.1,(),(),(),()) (a.1,a.2.1+1,a.2.2.1+1,a.2.2.2.1,()) (a.2.1+1,CL d l) (a.2.2.1+1,CL b p) (Prod.fst c,Prod.snd c)):Nat)<n k f e a d b c)) (rq (aI h)/\rq (aS g)/\rq (.ptr 14900000 0)/\rq (.ptr 14900303 0)/\rq (aI r)/\rq (aI m)/\rh [X7 e,hB 14900303 [aB a.1,.row 14901704 (a.2.1+1),.row 14902304 a.2.2.1,.row 14901204 a.2.2.2.1],(14901204,.row false true (Prod.fst c) 3 1 (Prod.snd c)),(14901704,.row false true (a.2.1+1) 9 1 (CL d l)),(14902304,.row false true (Prod.fst b) 9 1 (Prod.snd b))]/\q t (wI (f+1)) (e.1,(),(),(),()) (a.1,a.2.1+1,a.2.2.1,a.2.2.2.1,()) (a.2.1+1,CL d l) (Prod.fst b,Prod.snd b) (Prod.fst c,Prod.snd c)/\((n t (wI (f+1)) (e.1,(),(),(),()) (a.1,a.2.1+1,a.2.2.1,a.2.2.2.1,()) (a.2.1+1,CL d l) (Prod.fst b,Prod.snd b) (Prod.fst c,Prod.snd c)):Nat)<n k f e a d b c)))) (nJ h m g k c a o d b)) (nJ h m g k c a o d b)
def nT (a:Int)(b:bA)(R:AV->Prop):Prop:=
 Ae (a != 1) (Ae (a != 2) (R (.tup [FF,aI 81])) (mU b a R)) (mU b a R)
def ACq:=λa b c=>PLift.up (by delta nT mU nJ Lg Kj Vl Mp QR Y3 Vr Hq Wa cA Xi Ry VB CL Zv Uy Kw X7 oW FF fS;exact rfl:nT a b c=_)
theorem ABP a b R:Vc AG c149.body (Af c149 [aI a,aS b]) [] (Aq c149 R)=nT a b R:=by kernel_rfl
abbrev RR (a:LD):=
 decide ((a.length:Int)<=8)
abbrev cL (c:Bool)(b:LD)(d:Bool)(a:AV->Prop):=
 Ae c (Ae (RR b) (Ae d (a (.n (.bool true))) (a (.n (.bool (decide ((b.length:Int)>=4)))))) (a (.n (.bool false)))) (a (.n (.bool false)))
def rC (c:Bool)(a f d:LD)(e:Bool)(R:AV->Prop):Prop:=
 ∃b:Bool,Runs AG 190 [Bj c a f d] [] (aB b) []/\cL b a e R
def ACJ:=λa b c d e f=>PLift.up (by delta rC cL Bj RR;exact rfl:rC a b c d e f=_)
theorem AAO a e c b d R:Vc AG c150.body (Af c150 [(.agg [aB a,aL e,aL c,aL b]),aB d]) [] (Aq c150 R)=rC a e c b d R:=by kernel_rfl
abbrev Kn (b:bA)(a c:Int):=
 hB 21400302 [aS b,aI a,aI c]
abbrev Ym:=
 bA×Int×Int×Unit
abbrev X6 (a:AV->Prop):=
 a (.tup [IQ,aI 4])
abbrev Wf (a:(Nat×LD)):AV:=
 .n (D.sl 1 (Prod.snd a))
abbrev kS (a:Kj)(f:Ym)(d:(Nat×LD))(e:AV->Prop)(j:bA)(c b:(Nat×LD)):=
 Ae (Bool.not a.1) (∃(g:Int)(m:bA)(l h:Int),Runs AG 229 [.ptr 21400302 0,aI 2] [hB 21400302 [aS f.1,aI f.2.1,aI f.2.2.1]] (aI g) [Kn m l h]/\rn 0/\Ry g/\Uy d a/\(((Hq d+List.length [D.int .i64 g])*8):Nat)<=140737488355328/\Ae (h != 0) (e (.tup [IQ,aI h])) (Ae (l != (((ByteArray.size j):Nat):Int)) (X6 e) (Prod.fst c=a.2.1/\Prod.fst b=a.2.2.1/\Vr a/\∃i:Bool,Runs AG 158 [.agg [aB a.1,aL (Prod.snd c),aL (Prod.snd b),aL (Prod.snd d++[D.int .i64 g])],aB true] [] (aB i) []/\Ae (Bool.not i) (X6 e) (Prod.fst c=a.2.1/\Prod.fst b=a.2.2.1/\Vr a/\e (.tup [.agg [aB a.1,Wf c,Wf b,.n (D.sl 1 (Prod.snd d++[D.int .i64 g]))],aI 0]))))) (Ae (f.2.2.1 != 0) (e (.tup [IQ,aI f.2.2.1])) (Ae (f.2.1 != (((ByteArray.size j):Nat):Int)) (X6 e) (Prod.fst c=a.2.1/\Prod.fst b=a.2.2.1/\Prod.fst d=a.2.2.2.1/\∃k:Bool,Runs AG 158 [.agg [aB a.1,aL (Prod.snd c),aL (Prod.snd b),aL (Prod.snd d)],aB true] [] (aB k) []/\Ae (Bool.not k) (X6 e) (Prod.fst c=a.2.1/\Prod.fst b=a.2.2.1/\Prod.fst d=a.2.2.2.1/\e (.tup [.agg [aB a.1,Wf c,Wf b,Wf d],aI 0])))))
abbrev pR (k:bA)(x:Int)(z:AV->Prop):=
 ∃(n:Int)(w:bA)(u v:Int),Runs AG 229 [.ptr 21400302 0,aI 1] [hB 21400302 [aS k,aI 0,aI 0]] (aI n) [Kn w u v]/\∃(l:Int->Ym->cA)(t:Int->Ym->fS),(rh [hB 21400000 Vl,Kn w u v,hB 21400403 [aB (x==1),.row 21490001 0,.row 21490002 0,.row 21490003 0],(21490001,.row false true 0 9 1 []),(21490002,.row false true 0 9 1 []),(21490003,.row false true 0 3 1 [])]/\l 0 (w,u,v,()) (x==1,0,0,0,()) (0,[]) (0,[]) (0,[]))/\∀(f:Int)(e:Ym)(a:Kj)(d c b:Nat×LD),l f e a d c b->∀G:Nat->AV,Ae (decide (f<n)) (Ae (e.2.2.1==0) (Ae a.1 (∃(i A:bA)(B C:Int),Runs AG 230 [.ptr 21400302 0] [hB 21400302 [aS e.1,aI e.2.1,aI e.2.2.1]] (aS i) [Kn A B C]/\rn 0/\Lg i/\VB d a/\Mp d i/\∃(j p:bA)(r q:Int),Runs AG 230 [.ptr 21400302 0] [Kn A B C] (aS j) [Kn p r q]/\rn 0/\Lg j/\((((Prod.fst c):Nat)=a.2.2.1/\rn 9)/\rn 1)/\Mp c j/\rq (aS k)/\rq (.ptr 21400000 0)/\rq (.ptr 21400302 0)/\rq (.ptr 21400403 0)/\rq (aI n)/\rh [hB 21400000 Vl,Kn p r q,hB 21400403 [aB a.1,.row 21490001 (a.2.1+1),.row 21490002 (a.2.2.1+1),.row 21490003 a.2.2.2.1],(21490001,.row false true (a.2.1+1) 9 1 (CL d i)),(21490002,.row false true (a.2.2.1+1) 9 1 (CL c j)),(21490003,.row false true (Prod.fst b) 3 1 (Prod.snd b))]/\l (wI (f+1)) (p,r,q,()) (a.1,a.2.1+1,a.2.2.1+1,a.2.2.2.1,()) (a.2.1+1,CL d i) (a.2.2.1+1,CL c j) (Prod.fst b,Prod.snd b)/\((t (wI (f+1)) (p,r,q,()) (a.1,a.2.1+1,a.2.2.1+1,a.2.2.2.1,()) (a.2.1+1,CL d i) (a.2.2.1+1,CL c j) (Prod.fst b,Prod.snd b)):Nat)<t f e a d c b) (∃(h:Int)(F:bA)(y E:Int),Runs AG 229 [.ptr 21400302 0,aI 2] [hB 21400302 [aS e.1,aI e.2.1,aI e.2.2.1]] (aI h) [Kn F y E]/\rn 0/\Ry h/\Uy b a/\(((Hq b+List.length [D.int .i64 h])*8):Nat)<=140737488355328/\∃(g s:bA)(o m:Int),Runs AG 230 [.ptr 21400302 0] [Kn F y E] (aS g) [Kn s o m]/\rn 0/\Lg g/\VB d a/\Mp d g/\rq (aS k)/\rq (.ptr 21400000 0)/\rq (.ptr 21400302 0)/\rq (.ptr 21400403 0)/\rq (aI n)/\rh [hB 21400000 Vl,Kn s o m,hB 21400403 [aB a.1,.row 21490001 (a.2.1+1),.row 21490002 a.2.2.1,.row 21490003 (a.2.2.2.1+1)],(21490001,.row false true (a.2.1+1) 9 1 (CL d g)),(21490002,.row false true (Prod.fst c) 9 1 (Prod.snd c)),(21490003,.row false true (a.2.2.2.1+1) 3 1 (Prod.snd b++[D.int .i64 h]))]/\l (wI (f+1)) (s,o,m,()) (a.1,a.2.1+1,a.2.2.1,a.2.2.2.1+1,()) (a.2.1+1,CL d g) (Prod.fst c,Prod.snd c) (a.2.2.2.1+1,Prod.snd b++[D.int .i64 h])/\((t (wI (f+1)) (s,o,m,()) (a.1,a.2.1+1,a.2.2.1,a.2.2.2.1+1,()) (a.2.1+1,CL d g) (Prod.fst c,Prod.snd c) (a.2.2.2.1+1,Prod.snd b++[D.int .i64 h])):Nat)<t f e a d c b)) (kS a e b z k d c)) (kS a e b z k d c)
def pM (a:Int)(b:bA)(R:AV->Prop):Prop:=
 Ae (a != 1) (Ae (a != 2) (R (.tup [IQ,aI 81])) (pR b a R)) (pR b a R)
def ABV:=λa b c=>PLift.up (by delta pM Lg Kj Vl Mp Vr X6 Hq pR cA Ry VB IQ CL Uy Ym Kn kS fS Wf;exact rfl:pM a b c=_)
theorem ACO a b R:Vc AG c214.body (Af c214 [aI a,aS b]) [] (Aq c214 R)=pM a b R:=by kernel_rfl
def sY (c:Bool)(a f d:LD)(e:Bool)(R:AV->Prop):Prop:=
 ∃b:Bool,Runs AG 160 [Bj c a f d] [] (aB b) []/\cL b a e R
def AAi:=λa b c d e f=>PLift.up (by delta sY cL Bj RR;exact rfl:sY a b c d e f=_)
theorem ACG a e c b d R:Vc AG c158.body (Af c158 [(.agg [aB a,aL e,aL c,aL b]),aB d]) [] (Aq c158 R)=sY a e c b d R:=by kernel_rfl
abbrev Pq (b:LD)(a:Int)(c:D):=
 (b[Int.toNat (wI (a-1))]?=some c)
abbrev Km (b a:bA):=
 Op.bytesLess (ByteArray.toList b) (ByteArray.toList a)
abbrev sA (a:LD)(e:Bool)(f g:LD)(d:(Int->Prop))(b:Int)(c:(Int->Nat)):=
 rq (.ptr 16000000 0)/\E5 a/\rq (aL a)/\E5 a/\rh [hB 16000000 [aB e,aL a,aL f,aL g]]/\d (wI (b+1))/\((c (wI (b+1))):Nat)<c b
def mR (f:Bool)(a d c:LD)(R:AV->Prop):Prop:=
 Ae (decide ((a.length:Int) > 9)) (R (.n (.bool false))) (∃(g:Int->Prop)(j:Int->Nat),(rh [hB 16000000 [aB f,aL a,aL d,aL c]]/\g 0)/\∀b:Int,g b->∀o:Nat->AV,Ae (Bw b a) (rn 1/\(0:Int)<=b/\∃l:D,AX a b l/\∃e:bA,B7 l e/\Ae (decide ((((ByteArray.size e):Nat):Int)<1)) (R (.n (.bool false))) (Ae (decide ((((ByteArray.size e):Nat):Int) > 32)) (R (.n (.bool false))) (Ae (decide (b > 0)) (rn 1/\(0:Int)<=wI (b-1)/\∃i:D,Pq a b i/\∃h:bA,B7 i h/\Ae (Km e h||KE e h) (R (.n (.bool false))) (sA a f d c g b j)) (sA a f d c g b j)))) (Ae f (Ae ((c.length:Int)==0) (Ae ((d.length:Int)==(a.length:Int)) (∃m:Bool,Runs AG 83 [aL d,.fn 193 []] [] (aB m) []/\R (.n (.bool (Bool.not m)))) (R (.n (.bool false)))) (R (.n (.bool false)))) (Ae ((d.length:Int)==0) (Ae (decide ((a.length:Int)>=1)) (Ae ((c.length:Int)==wI ((a.length:Int)+1)) (∃k:Bool,Runs AG 194 [aL c,.fn 195 []] [] (aB k) []/\R (.n (.bool (Bool.not k)))) (R (.n (.bool false)))) (R (.n (.bool false)))) (R (.n (.bool false))))))
def AAa:=λa b c d e=>PLift.up (by delta mR Pq AX Bw KE E5 sA B7 Km;exact rfl:mR a b c d e=_)
theorem AA1 a d b c R:Vc AG c160.body (Af c160 [(.agg [aB a,aL d,aL b,aL c])]) [] (Aq c160 R)=mR a d b c R:=by kernel_rfl
def nF (b c a:bA)(R:AV->Prop):Prop:=
 Ae (Bool.not (Km b c)) (Ae (Wx a) (R (.n (.bool true))) (R (.n (.bool (Km b a))))) (R (.n (.bool false)))
def AB1:=λa b c d=>PLift.up (by delta nF Wx Km EE;exact rfl:nF a b c d=_)
theorem vW b c a R:Vc AG c113.body (Af c113 [aS b,aS c,aS a]) [] (Aq c113 R)=nF b c a R:=by kernel_rfl
def ADm (e:LD)(R:AV->Prop):Prop:=
 ∃c:Int,Runs AG 139 [aL e] [] (aI c) []/\∃(f:Int->Int->Prop)(d:Int->Int->Nat),(rh []/\f 0 0)/\∀(b a:Int),f b a->∀h:Nat->AV,Ae (decide (a<c)) (∃g:Bool,Runs AG 140 [aL e,.fn 157 [.ptr 12200401 0]] [hB 12200401 [aI a]] (aB g) [hB 12200401 [aI a]]/\Ae (Bool.not g) (rq (aL e)/\rq (aI c)/\rh []/\f (wI (b+1)) (wI (a+1))/\((d (wI (b+1)) (wI (a+1))):Nat)<d b a) (rq (aL e)/\rq (aI c)/\rh []/\f b (wI (a+1))/\((d b (wI (a+1))):Nat)<d b a)) (R (.n (.int .i64 b)))
theorem ACF a R:Vc AG c122.body (Af c122 [aL a]) [] (Aq c122 R)=ADm a R:=by kernel_rfl
abbrev SU (b:Bool)(a d c:LD):=
 rh [hB 19000000 [aB b,aL a,aL d,aL c]]
abbrev qK (b:LD)(e:Bool)(f g:LD)(d:(Int->Prop))(a:Int)(c:(Int->Nat)):=
 rq (.ptr 19000000 0)/\rq (aL b)/\E5 b/\SU e b f g/\d (wI (a+1))/\((c (wI (a+1))):Nat)<c a
def nR (e:Bool)(a c b:LD)(R:AV->Prop):Prop:=
 Ae (decide ((a.length:Int) > 9)) (R (.n (.bool false))) (∃(i:Int->Prop)(q:Int->Nat),(SU e a c b/\i 0)/\∀d:Int,i d->∀x:Nat->AV,Ae (Bw d a) (rn 1/\(0:Int)<=d/\∃r:D,AX a d r/\∃h:bA,B7 r h/\Ae (decide ((((ByteArray.size h):Nat):Int)<1)) (R (.n (.bool false))) (Ae (decide ((((ByteArray.size h):Nat):Int) > 32)) (R (.n (.bool false))) (Ae (decide (d > 0)) (rn 1/\(0:Int)<=wI (d-1)/\∃p:D,Pq a d p/\∃j:bA,B7 p j/\Ae (Km h j||KE h j) (R (.n (.bool false))) (qK a e c b i d q)) (qK a e c b i d q)))) (∃(m:Int->Prop)(v:Int->Nat),(SU e a c b/\m 0)/\∀f:Int,m f->∀w:Nat->AV,Ae (Bw f c) (rn 1/\(0:Int)<=f/\∃s:D,AX c f s/\∃u:bA,B7 s u/\Ae (decide ((((ByteArray.size u):Nat):Int) > 200)) (R (.n (.bool false))) (rq (.ptr 19000000 0)/\rq (aL c)/\E5 c/\SU e a c b/\m (wI (f+1))/\((v (wI (f+1))):Nat)<v f)) (∃(k:Int->Prop)(t:Int->Nat),(SU e a c b/\k 0)/\∀g:Int,k g->∀y:Nat->AV,Ae (Bw g b) (rn 1/\(0:Int)<=g/\∃o:D,AX b g o/\∃l:Int,((D.cells o)[0]?=some (D.int .i64 l))/\Ae (decide (l<10)) (R (.n (.bool false))) (Ae (decide (l > 2047)) (R (.n (.bool false))) (rq (.ptr 19000000 0)/\rq (aL b)/\E5 b/\SU e a c b/\k (wI (g+1))/\((t (wI (g+1))):Nat)<t g))) (Ae e (Ae ((c.length:Int)==(a.length:Int)) (R (.n (.bool ((b.length:Int)==0)))) (R (.n (.bool false)))) (Ae ((c.length:Int)==0) (Ae (decide ((a.length:Int)>=1)) (R (.n (.bool ((b.length:Int)==wI ((a.length:Int)+1))))) (R (.n (.bool false)))) (R (.n (.bool false))))))))
def ADF:=λa b c d e=>PLift.up (by delta nR SU Pq AX Bw Km KE E5 B7 qK;exact rfl:nR a b c d e=_)
theorem ABh a d b c R:Vc AG c190.body (Af c190 [(.agg [aB a,aL d,aL b,aL c])]) [] (Aq c190 R)=nR a d b c R:=by kernel_rfl
def V84 (a:bA)(R:AV->Prop):Prop:=
 R (.n (.bool (uH a)))
def AIe:=λa b=>PLift.up (by delta V84 uH;exact rfl:V84 a b=_)
theorem AGU a R:Vc AG c84.body (Af c84 [aS a]) [] (Aq c84 R)=V84 a R:=by kernel_rfl
def AFd (a:bA)(R:AV->Prop):Prop:=
 R (.n (.bool (decide ((((ByteArray.size a):Nat):Int) > 200))))
theorem vK a R:Vc AG c193.body (Af c193 [aS a]) [] (Aq c193 R)=AFd a R:=by kernel_rfl
def vX (a:Int)(R:AV->Prop):Prop:=
 Ae (decide (a<10)) (R (.n (.bool true))) (R (.n (.bool (decide (a>=2048)))))
theorem yS a R:Vc AG c195.body (Af c195 [aI a]) [] (Aq c195 R)=vX a R:=by kernel_rfl
def ADC (a:LD)(c:bA)(R:AV->Prop):Prop:=
 ∃b:Int,Runs AG 196 [aI (a.length:Int),.fn 197 [.ptr 16100000 0,.ptr 16100001 0]] [hB 16100000 [aL a],hB 16100001 [aS c]] (aI b) [hB 16100000 [aL a],hB 16100001 [aS c]]/\R (.n (.int .i64 b))
theorem yL a b R:Vc AG c161.body (Af c161 [aL a,aS b]) [] (Aq c161 R)=ADC a b R:=by kernel_rfl
abbrev Me (b:D)(a:LD):=
 ((D.cells b)[0]?=some (D.sl 1 a))
def rQ (c:LD)(R:AV->Prop):Prop:=
 ∃(d:Int->Int->Prop)(f:Int->Int->Nat),(rh []/\d 0 0)/\∀(b a:Int),d b a->∀h:Nat->AV,Ae (Bw a c) (rn 1/\(0:Int)<=a/\∃g:D,AX c a g/\∃e:LD,Me g e/\rq (aL c)/\rq (aI (c.length:Int))/\rh []/\d (Cs true b (e.length:Int)) (wI (a+1))/\((f (Cs true b (e.length:Int)) (wI (a+1))):Nat)<f b a) (R (.n (.int .i64 b)))
def AAb:=λa b=>PLift.up (by delta rQ AX Bw Me;exact rfl:rQ a b=_)
theorem AAY a R:Vc AG c139.body (Af c139 [aL a]) [] (Aq c139 R)=rQ a R:=by kernel_rfl
def lP (b:LD)(a:Int)(R:AV->Prop):Prop:=
 Ae (Bw a b) (rn 1/\(0:Int)<=a/\∃c:D,AX b a c/\∃d:Bool,Dt c d/\R (.n (.bool d))) (R (.n (.bool false)))
def ACv:=λa b c=>PLift.up (by delta lP AX Dt Bw;exact rfl:lP a b c=_)
theorem AA8 a b R:Vc AG c142.body (Af c142 [aL a,aI b]) [] (Aq c142 R)=lP a b R:=by kernel_rfl
abbrev gA (b:LD)(a:bA):=
 rh [hB 16100000 [aL b],hB 16100001 [aS a]]
abbrev lY:=
 rq (.fn 197 [.ptr 16100000 0,.ptr 16100001 0])
def XA (n:Int)(a:LD)(x:bA)(R:AV->Heap->Prop):Prop:=
 ∃(d:Int->Int->Prop)(e:Int->Int->Nat),(gA a x/\d 0 n)/\∀(b c:Int),d b c->∀g:Nat->AV,Ae (decide (b<c)) ((0:Int)<=1/\∃f:Bool,Runs AG 197 [aI (wI (Int.fdiv (IntKind.wrap .u64 (wI (b+c))) (2 ^ (Min.min (Int.toNat 1) (Go.IntKind.bits .u64))))),.ptr 16100000 0,.ptr 16100001 0] [hB 16100000 [aL a],hB 16100001 [aS x]] (aB f) [hB 16100000 [aL a],hB 16100001 [aS x]]/\Ae (Bool.not f) (lY/\gA a x/\d (wI (wI (Int.fdiv (IntKind.wrap .u64 (wI (b+c))) (2 ^ (Min.min (Int.toNat 1) (Go.IntKind.bits .u64))))+1)) c/\((e (wI (wI (Int.fdiv (IntKind.wrap .u64 (wI (b+c))) (2 ^ (Min.min (Int.toNat 1) (Go.IntKind.bits .u64))))+1)) c):Nat)<e b c) (lY/\gA a x/\d b (wI (Int.fdiv (IntKind.wrap .u64 (wI (b+c))) (2 ^ (Min.min (Int.toNat 1) (Go.IntKind.bits .u64)))))/\((e b (wI (Int.fdiv (IntKind.wrap .u64 (wI (b+c))) (2 ^ (Min.min (Int.toNat 1) (Go.IntKind.bits .u64)))))):Nat)<e b c)) (R (.n (.int .i64 b)) [hB 16100000 [aL a],hB 16100001 [aS x]])
def pT:=λa b c d=>PLift.up (by delta XA lY gA;exact rfl:XA a b c d=_)
theorem sK (n:Int)(a:LD)(x:bA)(R:AV->Heap->Prop):Vc AG c196.body (Af c196 [aI n,.fn 197 [.ptr 16100000 0,.ptr 16100001 0]]) [(16100000,.box [aL a]),(16100001,.box [aS x])] (AQ c196 [(16100000,.box [aL a]),(16100001,.box [aS x])] R)=XA n a x R:=by kernel_rfl
def Yj (i:Int)(a:LD)(x:bA)(R:AV->Heap->Prop):Prop:=
 rn 1/\(0:Int)<=i/\∃c:D,(a[Int.toNat i]?=some c)/\∃b:bA,B7 c b/\R (.n (.bool (Bool.not (Km b x)))) [hB 16100000 [aL a],hB 16100001 [aS x]]
def qN:=λa b c d=>PLift.up (by delta Yj B7 Km;exact rfl:Yj a b c d=_)
theorem kV (i:Int)(a:LD)(x:bA)(R:AV->Heap->Prop):Vc AG c197.body (Af c197 [aI i,.ptr 16100000 0,.ptr 16100001 0]) [(16100000,.box [aL a]),(16100001,.box [aS x])] (AQ c197 [(16100000,.box [aL a]),(16100001,.box [aS x])] R)=Yj i a x R:=by kernel_rfl
abbrev S8 (a:Int):=
 hB 12200401 [aI a]
def WM (a:LD)(i:Int)(R:AV->Heap->Prop):Prop:=
 ∃b:Bool,Runs AG 142 [aL a,aI i] [] (aB b) []/\R (.n (.bool (Bool.not b))) [S8 i]
def mP:=λa b c=>PLift.up (by delta WM S8;exact rfl:WM a b c=_)
theorem mY (a:LD)(i:Int)(R:AV->Heap->Prop):Vc AG c157.body (Af c157 [aL a,.ptr 12200401 0]) [(12200401,.box [aI i])] (AQ c157 [(12200401,.box [aI i])] R)=WM a i R:=by kernel_rfl
def Zz (l:LD)(i:Int)(R:AV->Heap->Prop):Prop:=
 ∃(b:Int->Prop)(d:Int->Nat),(rh [hB 12200401 [aI i]]/\b 0)/\∀a:Int,b a->∀g:Nat->AV,Ae (Bw a l) (rn 1/\(0:Int)<=a/\∃f:D,AX l a f/\∃e:LD,Me f e/\∃c:Bool,Runs AG 157 [aL e,.ptr 12200401 0] [hB 12200401 [aI i]] (aB c) [hB 12200401 [aI i]]/\Ae c (R (.n (.int .i64 a)) [S8 i]) (rq (aL l)/\rq (.fn 157 [.ptr 12200401 0])/\rq (aI (l.length:Int))/\rh [hB 12200401 [aI i]]/\b (wI (a+1))/\((d (wI (a+1))):Nat)<d a)) (R (.n (.int .i64 (-1))) [S8 i])
def lX:=λa b c=>PLift.up (by delta Zz AX Me Bw S8;exact rfl:Zz a b c=_)
theorem kE (l:LD)(i:Int)(R:AV->Heap->Prop):Vc AG c174.body (Af c174 [aL l,.fn 157 [.ptr 12200401 0]]) [(12200401,.box [aI i])] (AQ c174 [(12200401,.box [aI i])] R)=Zz l i R:=by kernel_rfl
def WJ (l:LD)(i:Int)(R:AV->Heap->Prop):Prop:=
 ∃a:Int,Runs AG 174 [aL l,.fn 157 [.ptr 12200401 0]] [hB 12200401 [aI i]] (aI a) [hB 12200401 [aI i]]/\R (Ni a) [S8 i]
def tE:=λa b c=>PLift.up (by delta WJ Ni S8;exact rfl:WJ a b c=_)
theorem kX (l:LD)(i:Int)(R:AV->Heap->Prop):Vc AG c140.body (Af c140 [aL l,.fn 157 [.ptr 12200401 0]]) [(12200401,.box [aI i])] (AQ c140 [(12200401,.box [aI i])] R)=WJ l i R:=by kernel_rfl
def oP (l:LD)(R:AV->Prop):Prop:=
 ∃a:Int,Runs AG 123 [aL l,.fn 84 []] [] (aI a) []/\R (Ni a)
def AAv:=λa b=>PLift.up (by delta oP Ni;exact rfl:oP a b=_)
theorem AAV l R:Vc AG c83.body (Af c83 [aL l,.fn 84 []]) [] (Aq c83 R)=oP l R:=by kernel_rfl
def WD (l:LD)(R:AV->Prop):Prop:=
 ∃(b:Int->Prop)(d:Int->Nat),(rh []/\b 0)/\∀a:Int,b a->∀g:Nat->AV,Ae (Bw a l) (rn 1/\(0:Int)<=a/\∃f:D,AX l a f/\∃e:bA,B7 f e/\∃c:Bool,Runs AG 84 [aS e] [] (aB c) []/\Ae c (R (.n (.int .i64 a))) (rq (aL l)/\rq (.fn 84 [])/\rq (aI (l.length:Int))/\rh []/\b (wI (a+1))/\((d (wI (a+1))):Nat)<d a)) (R (.n (.int .i64 (-1))))
def kN:=λa b=>PLift.up (by delta WD AX Bw B7;exact rfl:WD a b=_)
theorem oC l R:Vc AG c123.body (Af c123 [aL l,.fn 84 []]) [] (Aq c123 R)=WD l R:=by kernel_rfl
def oO (l:LD)(R:AV->Prop):Prop:=
 ∃a:Int,Runs AG 123 [aL l,.fn 193 []] [] (aI a) []/\R (Ni a)
def ACe:=λa b=>PLift.up (by delta oO Ni;exact rfl:oO a b=_)
theorem xM l R:Vc AG c83.body (Af c83 [aL l,.fn 193 []]) [] (Aq c83 R)=oO l R:=by kernel_rfl
def YF (l:LD)(R:AV->Prop):Prop:=
 ∃(b:Int->Prop)(d:Int->Nat),(rh []/\b 0)/\∀a:Int,b a->∀g:Nat->AV,Ae (Bw a l) (rn 1/\(0:Int)<=a/\∃f:D,AX l a f/\∃e:bA,B7 f e/\∃c:Bool,Runs AG 193 [aS e] [] (aB c) []/\Ae c (R (.n (.int .i64 a))) (rq (aL l)/\rq (.fn 193 [])/\rq (aI (l.length:Int))/\rh []/\b (wI (a+1))/\((d (wI (a+1))):Nat)<d a)) (R (.n (.int .i64 (-1))))
def lS:=λa b=>PLift.up (by delta YF AX Bw B7;exact rfl:YF a b=_)
theorem pC l R:Vc AG c123.body (Af c123 [aL l,.fn 193 []]) [] (Aq c123 R)=YF l R:=by kernel_rfl
def ZO (l:LD)(R:AV->Prop):Prop:=
 ∃a:Int,Runs AG 215 [aL l,.fn 195 []] [] (aI a) []/\R (Ni a)
def rB:=λa b=>PLift.up (by delta ZO Ni;exact rfl:ZO a b=_)
theorem sU l R:Vc AG c194.body (Af c194 [aL l,.fn 195 []]) [] (Aq c194 R)=ZO l R:=by kernel_rfl
def Xh (l:LD)(R:AV->Prop):Prop:=
 ∃(b:Int->Prop)(d:Int->Nat),(rh []/\b 0)/\∀a:Int,b a->∀g:Nat->AV,Ae (Bw a l) (rn 1/\(0:Int)<=a/\∃f:D,AX l a f/\∃e:Int,((D.cells f)[0]?=some (D.int .i64 e))/\∃c:Bool,Runs AG 195 [aI e] [] (aB c) []/\Ae c (R (.n (.int .i64 a))) (rq (aL l)/\rq (.fn 195 [])/\rq (aI (l.length:Int))/\rh []/\b (wI (a+1))/\((d (wI (a+1))):Nat)<d a)) (R (.n (.int .i64 (-1))))
def pH:=λa b=>PLift.up (by delta Xh AX Bw;exact rfl:Xh a b=_)
theorem mL l R:Vc AG c215.body (Af c215 [aL l,.fn 195 []]) [] (Aq c215 R)=Xh l R:=by kernel_rfl
abbrev Ow (a:bA):=
 hB 12100000 [aS a]
abbrev Oh (a:bA):=
 hB 12100001 [aS a]
def WB (k b a:bA)(R:AV->Heap->Prop):Prop:=
 Ae (Km k b) (R (.n (.bool true)) [Ow b,Oh a]) (Ae (Bool.not (Wx a)) (R (.n (.bool (Bool.not (Km k a)))) [Ow b,Oh a]) (R (.n (.bool false)) [Ow b,Oh a]))
def mD:=λa b c d=>PLift.up (by delta WB EE Ow Km Oh Wx;exact rfl:WB a b c d=_)
theorem rK (k:bA)(lo:bA)(hi:bA)(R:AV->Heap->Prop):Vc AG c156.body (Af c156 [aS k,.ptr 12100000 0,.ptr 12100001 0]) [(12100000,.box [aS lo]),(12100001,.box [aS hi])] (AQ c156 [(12100000,.box [aS lo]),(12100001,.box [aS hi])] R)=WB k lo hi R:=by kernel_rfl
abbrev UA:List AV:=
 [.ptr 12100000 0,.ptr 12100001 0]
def sZ (l:LD)(b a:bA)(R:AV->Heap->Prop):Prop:=
 ∃c:Int,Runs AG 123 [aL l,.fn 156 UA] [hB 12100000 [aS b],hB 12100001 [aS a]] (aI c) [hB 12100000 [aS b],hB 12100001 [aS a]]/\R (Ni c) [Ow b,Oh a]
def AC7:=λa b c d=>PLift.up (by delta sZ UA Oh Ow Ni;exact rfl:sZ a b c d=_)
theorem ABG (l:LD)(lo:bA)(hi:bA)(R:AV->Heap->Prop):Vc AG c83.body (Af c83 [aL l,.fn 156 [.ptr 12100000 0,.ptr 12100001 0]]) [(12100000,.box [aS lo]),(12100001,.box [aS hi])] (AQ c83 [(12100000,.box [aS lo]),(12100001,.box [aS hi])] R)=sZ l lo hi R:=by kernel_rfl
def Zf (l:LD)(c b:bA)(R:AV->Heap->Prop):Prop:=
 ∃(d:Int->Prop)(f:Int->Nat),(rh [hB 12100000 [aS c],hB 12100001 [aS b]]/\d 0)/\∀a:Int,d a->∀i:Nat->AV,Ae (Bw a l) (rn 1/\(0:Int)<=a/\∃h:D,AX l a h/\∃g:bA,B7 h g/\∃e:Bool,Runs AG 156 [aS g,.ptr 12100000 0,.ptr 12100001 0] [hB 12100000 [aS c],hB 12100001 [aS b]] (aB e) [hB 12100000 [aS c],hB 12100001 [aS b]]/\Ae e (R (.n (.int .i64 a)) [Ow c,Oh b]) (rq (aL l)/\rq (.fn 156 UA)/\rq (aI (l.length:Int))/\rh [hB 12100000 [aS c],hB 12100001 [aS b]]/\d (wI (a+1))/\((f (wI (a+1))):Nat)<f a)) (R (.n (.int .i64 (-1))) [Ow c,Oh b])
def oY:=λa b c d=>PLift.up (by delta Zf UA AX Ow Bw Oh B7;exact rfl:Zf a b c d=_)
theorem jL (l:LD)(lo:bA)(hi:bA)(R:AV->Heap->Prop):Vc AG c123.body (Af c123 [aL l,.fn 156 [.ptr 12100000 0,.ptr 12100001 0]]) [(12100000,.box [aS lo]),(12100001,.box [aS hi])] (AQ c123 [(12100000,.box [aS lo]),(12100001,.box [aS hi])] R)=Zf l lo hi R:=by kernel_rfl
abbrev We (b:bA)(a c:Int):=
 hB 21400302 [aS b,aI a,aI c]
def X4 (s:bA)(n e k:Int)(R:AV->Heap->Prop):Prop:=
 Ae (e != 0) (R (.n (.int .i64 0)) [We s n e]) (∃(b a c:Int),Runs AG 40 [aS s,aI n,aI k] [] (Kw b a c) []/\R (.n (.int .i64 b)) [We s a c])
def rG:=λa b c d e=>PLift.up (by delta X4 We Kw;exact rfl:X4 a b c d e=_)
theorem rV (s:bA)(n:Int)(e:Int)(k:Int)(R:AV->Heap->Prop):Vc AG c229.body (Af c229 [.ptr 21400302 0,aI k]) [(21400302,.box [aS s,aI n,aI e])] (AQ c229 [(21400302,.box [aS s,aI n,aI e])] R)=X4 s n e k R:=by kernel_rfl
def XE (s:bA)(n e:Int)(R:AV->Heap->Prop):Prop:=
 Ae (e != 0) (R E4 [We s n e]) (∃(b:bA)(a c:Int),Runs AG 42 [aS s,aI n] [] (.tup [aS b,aI a,aI c]) []/\R (.n (.str b)) [We s a c])
def tQ:=λa b c d=>PLift.up (by delta XE We E4 EE;exact rfl:XE a b c d=_)
theorem sP (s:bA)(n:Int)(e:Int)(R:AV->Heap->Prop):Vc AG c230.body (Af c230 [.ptr 21400302 0]) [(21400302,.box [aS s,aI n,aI e])] (AQ c230 [(21400302,.box [aS s,aI n,aI e])] R)=XE s n e R:=by kernel_rfl
abbrev jG (a c d:LD)(e b:Int):=
 hB 15500302 [aL a,aL c,aL d,aI e,aI b,E4,aI 0,aI 0,.n D.nil,E4,aB false,aB false]
abbrev QW (b:AV->Heap->Prop)(d e f:LD)(c a:Int):=
 b (.tup [IQ,aB false]) [jG d e f c a]
def ZV (d a b:LD)(e c f:Int)(v:Bool)(R:AV->Heap->Prop):Prop:=
 Ae (decide (f<10)) (QW R d a b e c) (Ae (Jq f a) (QW R d a b e c) (rn 1/\(0:Int)<=f/\∃s:D,AX a f s/\∃o:Bool,Dt s o/\Ae (Bool.not o) (QW R d a b e c) (rn 1/\(0:Int)<=f/\∃l:D,AX b f l/\∃r:bA,B7 l r/\0=0/\∃(p t:Int)(m:bA)(k:Int),Runs AG 77 [aS r,aL [D.int .i64 1,D.int .i64 2]] [] (Wt p t m k) []/\Ae (k != 0) (QW R d a b e c) (Ae (decide (t > c)) (QW R d a b e c) (∃(i:Bool)(j h g:LD)(q:Int),Runs AG 214 [aI p,aS m] [] (.tup [HY i j h g,aI q]) []/\Ae (q != 0) (QW R d a b e c) (∃u:Bool,Runs AG 158 [Bj i j h g,aB v] [] (aB u) []/\Ae (Bool.not u) (QW R d a b e c) (R (.tup [VC i j h g,aB true]) [jG d a b e c])))))))
def mJ:=λa b c d e f g h=>PLift.up (by delta ZV Dt Jq EE AX Bj E4 VC QW Wt B7 jG HY IQ;exact rfl:ZV a b c d e f g h=_)
theorem pE (ba:LD)(no:LD)(pa:LD)(ro:Int)(ge:Int)(block:Int)(root:Bool)(R:AV->Heap->Prop):Vc AG c192.body (Af c192 [.ptr 15500302 0,aI block,aB root]) [(15500302,.box [aL ba,aL no,aL pa,aI ro,aI ge,aS (ByteArray.mk (List.toArray [])),aI 0,aI 0,.n .nil,aS (ByteArray.mk (List.toArray [])),aB false,aB false])] (AQ c192 [(15500302,.box [aL ba,aL no,aL pa,aI ro,aI ge,aS (ByteArray.mk (List.toArray [])),aI 0,aI 0,.n .nil,aS (ByteArray.mk (List.toArray [])),aB false,aB false])] R)=ZV ba no pa ro ge block root R:=by kernel_rfl
abbrev RV (d f h:LD)(j e c a g:Int)(i:Nat)(b:Bool):=
 hB 7900307 [aL d,aL f,aL h,aI j,aI e,aI c,aI a,aI g,.row 7900305 i,aB b]
abbrev fI:AV:=
 .agg [aI 0,aI 0,aI 0]
abbrev pG:=
 Int->Ia->Nat×LD->Prop
abbrev qI:=
 Int->Ia->Nat×LD->Nat
abbrev R8 (a:AV->Prop):=
 a (.tup [fI,aI 81])
abbrev QT (b:(Nat×LD))(a:Int):=
 List.set (Prod.snd b) (Int.toNat a) (D.bool true)
abbrev nZ (c j l t:LD)(q p:Int)(a:Ia)(d:(Nat×LD))(n g:LD)(f s i k m:Int)(h:Nat)(o:Bool)(r:(Int->(Ia->Prop)))(b:Int)(e:(Int->(Ia->Nat))):=
 rq (.ptr 3700001 0)/\rq (.ptr 3760101 0)/\rq (aL c)/\rq (aI (c.length:Int))/\rh [hB 3700000 (BI j l t q p),hB 3700001 [aI a.1,aI a.2.1,aI a.2.2.1],hR 3750101 (Prod.fst d) 4 1 (Prod.snd d),hB 3760101 [aL n,aL c,aL g,aI f,aI s,aI i,aI k,aI m,.row 3750101 h,aB o]]/\r (wI (b+1)) (a.1,a.2.1,a.2.2.1,())/\((e (wI (b+1)) (a.1,a.2.1,a.2.2.1,())):Nat)<e b a
def V37 (g j l:LD)(h i:Int)(u:LD)(R:AV->Prop):Prop:=
 (∃(W:Unit)(E:Int)(r f t:LD)(v s o k p:Int)(c:Nat)(q:Bool)(F:Nat)(B:LD),Runs AG 79 [Bt g j l h i] [] (.tup [.ptr 7900307 0,aI E]) [hR 7900305 F 4 1 B,RV r f t v s o k p c q]/\Ae (E != 0) (R (.tup [fI,aI E])) (∃(z:pG)(I:qI),(rh [hB 3700000 (BI g j l h i),hB 3700001 [aI 0,aI 0,aI 0],hR 3750101 F 4 1 B,hB 3760101 [aL r,aL f,aL t,aI v,aI s,aI o,aI k,aI p,.row 3750101 c,aB q]]/\z 0 (0,0,0,()) (F,B))/\∀(m:Int)(b:Ia)(a:Nat×LD),z m b a->∀Y:Nat->AV,Ae (Bw m u) (rn 1/\(0:Int)<=m/\∃L:D,AX u m L/\∃d:Int,((D.cells L)[0]?=some (D.int .i64 d))/\Ae (decide (d<10)) (R8 R) (MD a c/\Ae (decide (d>=((Prod.snd a).length:Int))) (R8 R) (Qf a c/\(0:Int)<=d/\MS d a/\eA c a/\∃P:D,fA a d P/\∃H:Bool,Dt P H/\Ae H (R8 R) (Qf a c/\(0:Int)<=d/\MS d a/\Ww c a/\RC d a/\rq (.ptr 3700001 0)/\rq (.ptr 3760101 0)/\rq (aL u)/\rq (aI (u.length:Int))/\rh [hB 3700000 (BI g j l h i),hB 3700001 [aI b.1,aI b.2.1,aI b.2.2.1],hR 3750101 (Prod.fst a) 4 1 (QT a d),hB 3760101 [aL r,aL f,aL t,aI v,aI s,aI o,aI k,aI p,.row 3750101 c,aB q]]/\z (wI (m+1)) (b.1,b.2.1,b.2.2.1,()) (Prod.fst a,QT a d)/\((I (wI (m+1)) (b.1,b.2.1,b.2.2.1,()) (Prod.fst a,QT a d)):Nat)<I m b a)))) (∃(w:Int->Ia->Prop)(G:Int->Ia->Nat),(rh [hB 3700000 (BI g j l h i),hB 3700001 [aI b.1,aI b.2.1,aI b.2.2.1],hR 3750101 (Prod.fst a) 4 1 (Prod.snd a),hB 3760101 [aL r,aL f,aL t,aI v,aI s,aI o,aI k,aI p,.row 3750101 c,aB q]]/\w 0 (b.1,b.2.1,b.2.2.1,()))/\∀(e:Int)(A:Ia),w e A->∀V:Nat->AV,Ae (Bw e f) (rn 1/\(0:Int)<=e/\∃O:D,AX f e O/\∃C:Bool,Dt O C/\Ae (decide (e<10)) (Ae (Bool.not (C==true)) (R8 R) (nZ f g j l h i A a r t v s o k p c q w e G)) (Qf a c/\(0:Int)<=e/\MS e a/\eA c a/\∃K:D,fA a e K/\∃N:Bool,Dt K N/\Ae (Bool.not (C==N)) (R8 R) (nZ f g j l h i A a r t v s o k p c q w e G))) (R (.tup [.agg [aI o,aI k,aI p],aI 0])))))\/∃(Z:Unit)(y:Int),Runs AG 79 [Bt g j l h i] [] (.tup [.nilp,aI y]) []/\Ae (y != 0) (R (.tup [fI,aI y])) (∃(T:pG)(U:qI),False/\∀(x:Int)(S:Ia)(Q:Nat×LD),T x S Q->∀X:Nat->AV,Ae (Bw x u) (rn 1/\(0:Int)<=x/\∃M:D,AX u x M/\∃J:Int,((D.cells M)[0]?=some (D.int .i64 J))/\Ae (decide (J<10)) (R8 R) False) False)
def AGe:=λa b c d e f g=>PLift.up (by delta V37 pG BI RV RC Ww QT MS Bw Qf MD Dt fA nZ AX R8 qI Ia eA fI Bt;exact rfl:V37 a b c d e f g=_)
theorem AIF a f c b d e R:Vc AG c37.body (Af c37 [(.agg [aL a,aL f,aL c,aI b,aI d]),aL e]) [] (Aq c37 R)=V37 a f c b d e R:=by kernel_rfl
abbrev PX (b a:Nat)(d:Int)(c:Bool):=
 hB 2200101 [.row 2290001 b,.row 2290002 a,aI d,aB c]
def kF (m k l:LD)(a j:Int)(R:AV->Heap->Prop):Prop:=
 Ae (a != 0) (∃(d g:Nat)(e:Int)(c:Bool)(i:Nat)(h:LD)(f:Nat)(b:LD),Runs AG 64 [.ptr 2200101 0,Bt m k l a j,aI a,aI 1,aS EE,aS EE] [hB 2200101 [.row 2290001 0,.row 2290002 0,aI 0,aB false],hR 2290001 0 129 2 [],hR 2290002 0 3 1 []] (.tup []) [PX d g e c,hR 2290001 i 129 2 h,hR 2290002 f 3 1 b]/\R (.ptr 2200101 0) [hB 2200101 [.row 2290001 d,.row 2290002 g,aI e,aB c],hR 2290001 i 129 2 h,hR 2290002 f 3 1 b]) (R (.ptr 2200101 0) [hB 2200101 [.row 2290001 0,.row 2290002 0,aI 0,aB false],hR 2290001 0 129 2 [],hR 2290002 0 3 1 []])
def vH:=λa b c d e f=>PLift.up (by delta kF Bt BI PX EE;exact rfl:kF a b c d e f=_)
theorem wH (ba:LD)(no:LD)(pa:LD)(ro:Int)(ge:Int)(R:AV->Heap->Prop):Vc AG c22.body (Af c22 [(.agg [aL ba,aL no,aL pa,aI ro,aI ge])]) [] (N1 c22 R)=kF ba no pa ro ge R:=by kernel_rfl
abbrev rM (a:LD):=
 hR 7900305 0 4 1 (List.replicate (Int.toNat (a.length:Int)) (D.bool false))
abbrev bH (d f h:LD)(j e c a g:Int)(i:Nat)(b:Bool):=
 hB 7900307 [aL d,aL f,aL h,aI j,aI e,aI c,aI a,aI g,.row 7900305 i,aB b]
def lA (d a c:LD)(b f:Int)(R:AV->Heap->Prop):Prop:=
 ∃r:Bool,Runs AG 46 [Bt d a c b f] [] (aB r) []/\Ae (Bool.not r) (R (.tup [.nilp,aI 1]) []) ((0:Int)<=(a.length:Int)/\((Int.toNat (a.length:Int)*1):Nat)<=140737488355328/\Ae (b != 0) (∃(k:Nat)(i q m t:LD)(j h p s l:Int)(g:Nat)(e:Bool),Runs AG 121 [.ptr 7900307 0,aI b,aI 1,aS EE,aS EE] [rM a,hB 7900307 [aL d,aL a,aL c,aI b,aI f,aI 0,aI 0,aI 0,.row 7900305 0,aB false]] (.tup []) [hR 7900305 k 4 1 i,RV q m t j h p s l g e]/\Ae e (R (.tup [.nilp,aI 81]) []) (R (.tup [.ptr 7900307 0,aI 0]) [hR 7900305 k 4 1 i,bH q m t j h p s l g e])) (R (.tup [.ptr 7900307 0,aI 0]) [rM a,hB 7900307 [aL d,aL a,aL c,aI b,aI f,aI 0,aI 0,aI 0,.row 7900305 0,aB false]]))
def ABD:=λa b c d e f=>PLift.up (by delta lA RV EE bH rM BI Bt;exact rfl:lA a b c d e f=_)
theorem ADb (ba:LD)(no:LD)(pa:LD)(ro:Int)(ge:Int)(R:AV->Heap->Prop):Vc AG c79.body (Af c79 [(.agg [aL ba,aL no,aL pa,aI ro,aI ge])]) [] (N1 c79 R)=lA ba no pa ro ge R:=by kernel_rfl
abbrev Gc:=
 Nat×Nat×Int×Bool×Unit
abbrev Kk (b:Int)(a:LD):=
 (b:Int)<(a.length:Int)
abbrev Vn (a:Gc):=
 hB 2200101 [.row 2290001 a.1,.row 2290002 a.2.1,aI a.2.2.1,aB a.2.2.2.1]
abbrev YJ (c:AV->Heap->Prop)(a:Gc)(e:Nat)(f:LD)(d:Nat)(b:LD):=
 c (.tup []) [hB 2200101 [.row 2290001 a.1,.row 2290002 a.2.1,aI a.2.2.1,aB true],hR 2290001 e 129 2 f,hR 2290002 d 3 1 b]
abbrev MP (b:Gc)(a:LD)(c:Int):=
 hR 2290002 (b.2.1+1) 3 1 (a++[D.int .i64 c])
abbrev O5 (b:Bool)(a d c:LD):=
 hB 6400708 [aB b,aL a,aL d,aL c]
abbrev LH (b a:bA):=
 D.rcd [D.str b,D.str a]
abbrev ML (a:(Nat×LD)):=
 hR 2290001 (Prod.fst a) 129 2 (Prod.snd a)
abbrev FO (a:Int):=
 aI (wI (a+1))
abbrev dC (a:(Nat×LD)):=
 hR 2290002 (Prod.fst a) 3 1 (Prod.snd a)
abbrev YE (s f h:LD)(t p o i:Int)(e m:bA)(b:Gc)(a r:(Nat×LD))(d g:Nat)(l:Int)(c:Bool)(n:Nat)(q:LD)(k:Nat)(j:LD):=
 Runs AG 64 [.ptr 2200101 0,Bt s f h t p,aI o,FO i,aS e,aS m] [Vn b,ML a,dC r] (.tup []) [PX d g l c,hR 2290001 n 129 2 q,hR 2290002 k 3 1 j]
abbrev Zx (h k:Nat)(n:Int)(r:Bool)(j:Nat)(f:LD)(b:Nat)(l p e a:LD)(q i:Int)(m:Bool)(c g d:LD)(o:Int):=
 rh [PX h k n r,hR 2290001 j 129 2 f,hR 2290002 b 3 1 l,hB 6400000 (BI p e a q i),O5 m c g d,(6401006,.row true true 0 3 1 [D.int .i64 o])]
abbrev X2 (s:Int)(l n:bA)(e:LD)(a:Gc)(c b:(Nat×LD))(k p h:LD)(g r:Int)(j:Bool)(m o:LD)(i:Int)(q:(Int->(Gc->((Nat×LD)->((Nat×LD)->Prop)))))(d:Int)(f:(Int->(Gc->((Nat×LD)->((Nat×LD)->Nat))))):=
 rq (.ptr 2200101 0)/\rq (aI s)/\rq (aS l)/\rq (aS n)/\rq (.ptr 6400000 0)/\rq (.ptr 6400708 0)/\rq (aL e)/\E5 e/\rh [Vn a,ML c,dC b,hB 6400000 (BI k p h g r),O5 j m o e,(6401006,.row true true 0 3 1 [D.int .i64 i])]/\q (wI (d+1)) (a.1,a.2.1,a.2.2.1,a.2.2.2.1,()) (Prod.fst c,Prod.snd c) (Prod.fst b,Prod.snd b)/\((f (wI (d+1)) (a.1,a.2.1,a.2.2.1,a.2.2.2.1,()) (Prod.fst c,Prod.snd c) (Prod.fst b,Prod.snd b)):Nat)<f d a c b
abbrev rF (e:Int)(p1:Nat)(j:Gc)(y:LD)(p4:Nat)(p5 p o l:LD)(k m:Int)(q:Bool)(c r f:LD)(t s:bA)(i:Int)(M:AV->Heap->Prop):=
 rn 0/\Ry e/\(((p1:Nat)=j.2.1/\rn 3)/\rn 1)/\(((List.length y+List.length [D.int .i64 e])*8):Nat)<=140737488355328/\∃(C:Int->Gc->Nat×LD->Prop)(A:Int->Gc->Nat×LD->Nat),(rh [hB 2200101 [.row 2290001 j.1,.row 2290002 (j.2.1+1),aI j.2.2.1,aB j.2.2.2.1],hR 2290001 p4 129 2 p5,MP j y e,hB 6400000 (BI p o l k m),O5 q c r f,(6401006,.row true true 0 3 1 [D.int .i64 e])]/\C 0 (j.1,j.2.1+1,j.2.2.1,j.2.2.2.1,()) (p4,p5))/\∀(h:Int)(a:Gc)(b:Nat×LD),C h a b->∀c6:Nat->AV,Ae (Bw h c) (rn 1/\(0:Int)<=h/\∃b9:D,AX c h b9/\∃w:bA,B7 b9 w/\∃b6:Bool,Runs AG 113 [aS w,aS t,aS s] [] (aB b6) []/\Ae (Bool.not b6) (Ae q (rn 1/\(0:Int)<=h/\∃c3:D,AX r h c3/\∃E:bA,B7 c3 E/\rn 0/\(rn 2\/@Eq LD [LH w E] [])/\((((Prod.fst b):Nat)=a.1/\rn 129)/\rn 2)/\(((Hq b+List.length [LH w E])*32):Nat)<=140737488355328/\rq (.ptr 2200101 0)/\rq (aI i)/\rq (aS t)/\rq (aS s)/\rq (.ptr 6400000 0)/\rq (.ptr 6400708 0)/\rq (aL c)/\rq (aI (c.length:Int))/\rh [hB 2200101 [.row 2290001 (a.1+1),.row 2290002 a.2.1,aI a.2.2.1,aB true],hR 2290001 (a.1+1) 129 2 (Prod.snd b++[LH w E]),MP j y e,hB 6400000 (BI p o l k m),O5 q c r f,(6401006,.row true true 0 3 1 [D.int .i64 e])]/\C (wI (h+1)) (a.1+1,a.2.1,a.2.2.1,true,()) (a.1+1,Prod.snd b++[LH w E])/\((A (wI (h+1)) (a.1+1,a.2.1,a.2.2.1,true,()) (a.1+1,Prod.snd b++[LH w E])):Nat)<A h a b) (rq (.ptr 2200101 0)/\rq (aI i)/\rq (aS t)/\rq (aS s)/\rq (.ptr 6400000 0)/\rq (.ptr 6400708 0)/\rq (aL c)/\rq (aI (c.length:Int))/\rh [hB 2200101 [.row 2290001 a.1,.row 2290002 a.2.1,aI a.2.2.1,aB true],ML b,MP j y e,hB 6400000 (BI p o l k m),O5 q c r f,(6401006,.row true true 0 3 1 [D.int .i64 e])]/\C (wI (h+1)) (a.1,a.2.1,a.2.2.1,true,()) (Prod.fst b,Prod.snd b)/\((A (wI (h+1)) (a.1,a.2.1,a.2.2.1,true,()) (Prod.fst b,Prod.snd b)):Nat)<A h a b)) (Ae q (rn 1/\(0:Int)<=h/\∃c2:D,AX r h c2/\∃B:bA,B7 c2 B/\rn 0/\(rn 2\/@Eq LD [LH w B] [])/\((((Prod.fst b):Nat)=a.1/\rn 129)/\rn 2)/\(((Hq b+List.length [LH w B])*32):Nat)<=140737488355328/\rq (.ptr 2200101 0)/\rq (aI i)/\rq (aS t)/\rq (aS s)/\rq (.ptr 6400000 0)/\rq (.ptr 6400708 0)/\rq (aL c)/\rq (aI (c.length:Int))/\rh [hB 2200101 [.row 2290001 (a.1+1),.row 2290002 a.2.1,aI a.2.2.1,aB a.2.2.2.1],hR 2290001 (a.1+1) 129 2 (Prod.snd b++[LH w B]),MP j y e,hB 6400000 (BI p o l k m),O5 q c r f,(6401006,.row true true 0 3 1 [D.int .i64 e])]/\C (wI (h+1)) (a.1+1,a.2.1,a.2.2.1,a.2.2.2.1,()) (a.1+1,Prod.snd b++[LH w B])/\((A (wI (h+1)) (a.1+1,a.2.1,a.2.2.1,a.2.2.2.1,()) (a.1+1,Prod.snd b++[LH w B])):Nat)<A h a b) (rq (.ptr 2200101 0)/\rq (aI i)/\rq (aS t)/\rq (aS s)/\rq (.ptr 6400000 0)/\rq (.ptr 6400708 0)/\rq (aL c)/\rq (aI (c.length:Int))/\rh [Vn a,ML b,MP j y e,hB 6400000 (BI p o l k m),O5 q c r f,(6401006,.row true true 0 3 1 [D.int .i64 e])]/\C (wI (h+1)) (a.1,a.2.1,a.2.2.1,a.2.2.2.1,()) (Prod.fst b,Prod.snd b)/\((A (wI (h+1)) (a.1,a.2.1,a.2.2.1,a.2.2.2.1,()) (Prod.fst b,Prod.snd b)):Nat)<A h a b))) (Ae q (Ae (a.2.2.1 != 0) (Ae (a.2.2.1 != i) (M (.tup []) [hB 2200101 [.row 2290001 a.1,.row 2290002 a.2.1,aI i,aB true],ML b,MP j y e]) (M (.tup []) [hB 2200101 [.row 2290001 a.1,.row 2290002 a.2.1,aI i,aB a.2.2.2.1],ML b,MP j y e])) (M (.tup []) [hB 2200101 [.row 2290001 a.1,.row 2290002 a.2.1,aI i,aB a.2.2.2.1],ML b,MP j y e])) (∃(z:Int->Gc->Nat×LD->Nat×LD->Prop)(x:Int->Gc->Nat×LD->Nat×LD->Nat),(rh [Vn a,ML b,MP j y e,hB 6400000 (BI p o l k m),O5 q c r f,(6401006,.row true true 0 3 1 [D.int .i64 e])]/\z 0 (a.1,a.2.1,a.2.2.1,a.2.2.2.1,()) (Prod.fst b,Prod.snd b) (j.2.1+1,y++[D.int .i64 e]))/\∀(d:Int)(g:Gc)(v u:Nat×LD),z d g v u->∀c5:Nat->AV,Ae (Bw d f) (rn 1/\(0:Int)<=d/\∃b7:D,AX f d b7/\∃F:Int,((D.cells b7)[0]?=some (D.int .i64 F))/\Ae (decide (d > 0)) (rn 1/\(0:Int)<=wI (d-1)/\∃c1:D,Pq c d c1/\∃b4:bA,B7 c1 b4/\Ae (Bw d c) (rn 1/\(0:Int)<=d/\∃b5:D,AX c d b5/\∃c0:bA,B7 b5 c0/\Ae (Bool.not g.2.2.2.1) (∃(a3 J:Nat)(a0:Int)(a9:Bool)(a5:Nat)(S:LD)(W:Nat)(Z:LD),YE p o l k m F i b4 c0 g v u a3 J a0 a9 a5 S W Z/\rq (.ptr 2200101 0)/\rq (aI i)/\rq (aS t)/\rq (aS s)/\rq (.ptr 6400000 0)/\rq (.ptr 6400708 0)/\rq (aL f)/\E5 f/\Zx a3 J a0 a9 a5 S W Z p o l k m q c r f e/\z (wI (d+1)) (a3,J,a0,a9,()) (a5,S) (W,Z)/\((x (wI (d+1)) (a3,J,a0,a9,()) (a5,S) (W,Z)):Nat)<x d g v u) (X2 i t s f g v u p o l k m q c r e z d x)) (Ae (Bool.not g.2.2.2.1) (∃(H Y:Nat)(b0:Int)(U:Bool)(b1:Nat)(G:LD)(I:Nat)(b3:LD),YE p o l k m F i b4 s g v u H Y b0 U b1 G I b3/\rq (.ptr 2200101 0)/\rq (aI i)/\rq (aS t)/\rq (aS s)/\rq (.ptr 6400000 0)/\rq (.ptr 6400708 0)/\rq (aL f)/\E5 f/\Zx H Y b0 U b1 G I b3 p o l k m q c r f e/\z (wI (d+1)) (H,Y,b0,U,()) (b1,G) (I,b3)/\((x (wI (d+1)) (H,Y,b0,U,()) (b1,G) (I,b3)):Nat)<x d g v u) (X2 i t s f g v u p o l k m q c r e z d x))) (Ae (Bw d c) (rn 1/\(0:Int)<=d/\∃c4:D,AX c d c4/\∃b8:bA,B7 c4 b8/\Ae (Bool.not g.2.2.2.1) (∃(X a8:Nat)(V:Int)(Q:Bool)(O:Nat)(P:LD)(b2:Nat)(a4:LD),YE p o l k m F i t b8 g v u X a8 V Q O P b2 a4/\rq (.ptr 2200101 0)/\rq (aI i)/\rq (aS t)/\rq (aS s)/\rq (.ptr 6400000 0)/\rq (.ptr 6400708 0)/\rq (aL f)/\E5 f/\Zx X a8 V Q O P b2 a4 p o l k m q c r f e/\z (wI (d+1)) (X,a8,V,Q,()) (O,P) (b2,a4)/\((x (wI (d+1)) (X,a8,V,Q,()) (O,P) (b2,a4)):Nat)<x d g v u) (X2 i t s f g v u p o l k m q c r e z d x)) (Ae (Bool.not g.2.2.2.1) (∃(N K:Nat)(L:Int)(a2:Bool)(T:Nat)(a6:LD)(a7:Nat)(a1:LD),YE p o l k m F i t s g v u N K L a2 T a6 a7 a1/\rq (.ptr 2200101 0)/\rq (aI i)/\rq (aS t)/\rq (aS s)/\rq (.ptr 6400000 0)/\rq (.ptr 6400708 0)/\rq (aL f)/\E5 f/\Zx N K L a2 T a6 a7 a1 p o l k m q c r f e/\z (wI (d+1)) (N,K,L,a2,()) (T,a6) (a7,a1)/\((x (wI (d+1)) (N,K,L,a2,()) (T,a6) (a7,a1)):Nat)<x d g v u) (X2 i t s f g v u p o l k m q c r e z d x)))) (M (.tup []) [hB 2200101 [.row 2290001 g.1,.row 2290002 g.2.1,aI g.2.2.1,aB g.2.2.2.1],ML v,dC u])))
def tU (h e f:LD)(g i j k:Int)(n p:bA)(d b:Nat)(v:Int)(x:Bool)(P B:LD)(R:AV->Heap->Prop):Prop:=
 rn b/\∃(q:Int->Gc->Prop)(m:Int->Gc->Nat),(rh [PX d b v x,hR 2290001 d 129 2 P,hR 2290002 b 3 1 B,hB 6400000 (BI h e f g i)]/\q 0 (d,b,v,x,()))/\∀(c:Int)(a:Gc),q c a->∀y:Nat->AV,Ae (Bw c B) ((rn b/\rn 1)/\(0:Int)<=c/\Kk c B/\(rn b/\rn 1)/\∃w:D,AX B c w/\∃u:Int,((D.cells w)[0]?=some (D.int .i64 u))/\Ae (u==j) (rq (.ptr 2200101 0)/\rq (aI j)/\rq (aI k)/\rq (aS n)/\rq (aS p)/\rq (.ptr 6400000 0)/\rq (.row 2290002 b)/\rq (aI (B.length:Int))/\rh [hB 2200101 [.row 2290001 a.1,.row 2290002 a.2.1,aI a.2.2.1,aB true],hR 2290001 d 129 2 P,hR 2290002 b 3 1 B,hB 6400000 (BI h e f g i)]/\q (wI (c+1)) (a.1,a.2.1,a.2.2.1,true,())/\((m (wI (c+1)) (a.1,a.2.1,a.2.2.1,true,())):Nat)<m c a) (rq (.ptr 2200101 0)/\rq (aI j)/\rq (aI k)/\rq (aS n)/\rq (aS p)/\rq (.ptr 6400000 0)/\rq (.row 2290002 b)/\rq (aI (B.length:Int))/\rh [Vn a,hR 2290001 d 129 2 P,hR 2290002 b 3 1 B,hB 6400000 (BI h e f g i)]/\q (wI (c+1)) (a.1,a.2.1,a.2.2.1,a.2.2.2.1,())/\((m (wI (c+1)) (a.1,a.2.1,a.2.2.1,a.2.2.2.1,())):Nat)<m c a)) (∃(l:Bool)(o s r:LD)(t:Bool),Runs AG 112 [Bt h e f g i,aI j,aB (k==1)] [] (.tup [Bj l o s r,aB t]) []/\Ae a.2.2.2.1 (YJ R a d P b B) (Ae (Bool.not t) (YJ R a d P b B) (Ae (decide (k > 8)) (YJ R a d P b B) (Ae l (Ae ((o.length:Int)==0) (YJ R a d P b B) (rF j b a B d P h e f g i l o s r n p k R)) (rF j b a B d P h e f g i l o s r n p k R)))))
def wV:=λa b c d e f g h i j k l m n o p=>PLift.up (by delta tU BI PX YE Gc Pq MP O5 Kk Bw Hq Vn Zx E5 X2 AX Bj Ry LH B7 dC rF FO ML Bt YJ;exact rfl:tU a b c d e f g h i j k l m n o p=_)
theorem ABz (ba:LD)(no:LD)(pa:LD)(ro:Int)(ge:Int)(block:Int)(deep:Int)(low:bA)(high:bA)(va:Nat)(vb:Nat)(he:Int)(bad:Bool)(P:LD)(B:LD)(R:AV->Heap->Prop):Vc AG c64.body (Af c64 [.ptr 2200101 0,(.agg [aL ba,aL no,aL pa,aI ro,aI ge]),aI block,aI deep,aS low,aS high]) [(2200101,.box [.row 2290001 va,.row 2290002 vb,aI he,aB bad]),(2290001,.row false false va 129 2 P),(2290002,.row false false vb 3 1 B)] (AQ c64 [(2200101,.box [.row 2290001 va,.row 2290002 vb,aI he,aB bad]),(2290001,.row false false va 129 2 P),(2290002,.row false false vb 3 1 B)] R)=tU ba no pa ro ge block deep low high va vb he bad P B R:=by kernel_rfl
abbrev ZQ (f:AV->Heap->Prop)(a:Nat)(i k g e:LD)(c h j d b:Int):=
 f (.tup []) [hR 7900305 a 4 1 i,hB 7900307 [aL k,aL g,aL e,aI c,aI h,aI j,aI d,aI b,.row 7900305 a,aB true]]
abbrev IM (a:Nat):=
 ((rn a/\rn 0)/\rn 1)/\rn 1
abbrev Ol (b:Int)(a:LD):=
 ((Int.toNat b):Nat)<List.length a
abbrev UF (b:Nat)(a:LD)(c:Int):=
 hR 7900305 b 4 1 (List.set a (Int.toNat c) (D.bool true))
abbrev bK (b:Int)(a:LD):AV:=
 aI (wI (b+(a.length:Int)))
abbrev Qq:=
 LD×LD×LD×Int×Int×Int×Int×Int×Nat×Bool×Unit
abbrev WL (i k:Int)(n r:bA)(b:(Nat×LD))(a:Qq)(d:Nat)(l p g c:LD)(q j m e h:Int)(f:Nat)(o:Bool):=
 Runs AG 121 [.ptr 7900307 0,aI i,FO k,aS n,aS r] [hR 7900305 (Prod.fst b) 4 1 (Prod.snd b),hB 7900307 [aL a.1,aL a.2.1,aL a.2.2.1,aI a.2.2.2.1,aI a.2.2.2.2.1,aI a.2.2.2.2.2.1,aI a.2.2.2.2.2.2.1,aI a.2.2.2.2.2.2.2.1,.row 7900305 a.2.2.2.2.2.2.2.2.1,aB a.2.2.2.2.2.2.2.2.2.1]] (.tup []) [hR 7900305 d 4 1 l,RV p g c q j m e h f o]
abbrev Yi (a:Bool)(r:AV->Heap->Prop)(f:Nat)(l j i g:LD)(e h c b k:Int)(d:Nat)(s:Int)(o:LD)(q x:bA)(y:Bool)(w v:LD)(z:(Int->(Qq->((Nat×LD)->Prop))))(m:Int)(p:(Int->(Qq->((Nat×LD)->Nat))))(t:Qq)(u:(Nat×LD)):=
 Ae a (r (.tup []) [hR 7900305 f 4 1 l,bH j i g e h c b k d a]) (rq (.ptr 7900307 0)/\rq (aI s)/\rq (.ptr 12100000 0)/\rq (.ptr 12100001 0)/\rq (.ptr 12100111 0)/\rq (.n (D.sl 1 o))/\rq (aI (o.length:Int))/\rh [hR 7900305 f 4 1 l,RV j i g e h c b k d a,hB 12100000 [aS q],hB 12100001 [aS x],hB 12100111 [aB y,.n (D.sl 1 w),.n (D.sl 1 v),.n (D.sl 1 o)]]/\z (wI (m+1)) (j,i,g,e,h,c,b,k,d,a,()) (f,l)/\((p (wI (m+1)) (j,i,g,e,h,c,b,k,d,a,()) (f,l)):Nat)<p m t u)
abbrev lW (d:Nat)(g:Int)(k c:LD)(i h:bA)(j:AV->Heap->Prop)(t q m:LD)(r v w z p:Int)(s B:Bool)(e:Int)(x l:LD):=
 (rn d/\rn 1)/\(0:Int)<=g/\Kk g k/\IM d/\Ol g k/\∃x7:Bool,Runs AG 83 [aL c,.fn 156 UA] [hB 12100000 [aS i],hB 12100001 [aS h]] (aB x7) [hB 12100000 [aS i],hB 12100001 [aS h]]/\Ae x7 (j (.tup []) [UF d k g,hB 7900307 [aL t,aL q,aL m,aI r,aI v,aI w,aI z,IN p,.row 7900305 d,aB true]]) (Ae s (Ae B (j (.tup []) [UF d k g,hB 7900307 [aL t,aL q,aL m,aI r,aI v,bK w c,aI e,IN p,.row 7900305 d,aB true]]) (Ae (z != 0) (j (.tup []) [UF d k g,hB 7900307 [aL t,aL q,aL m,aI r,aI v,bK w c,aI e,IN p,.row 7900305 d,aB (z != e)]]) (j (.tup []) [UF d k g,hB 7900307 [aL t,aL q,aL m,aI r,aI v,bK w c,aI e,IN p,.row 7900305 d,aB false]]))) (∃(u:Int->Qq->Nat×LD->Prop)(A:Int->Qq->Nat×LD->Nat),(rh [UF d k g,hB 7900307 [aL t,aL q,aL m,aI r,aI v,aI w,aI z,FO p,.row 7900305 d,aB B],hB 12100000 [aS i],hB 12100001 [aS h],hB 12100111 [aB s,.n (D.sl 1 c),.n (D.sl 1 x),.n (D.sl 1 l)]]/\u 0 (t,q,m,r,v,w,z,wI (p+1),d,B,()) (d,List.set k (Int.toNat g) (D.bool true)))/\∀(b:Int)(a:Qq)(f:Nat×LD),u b a f->∀d3:Nat->AV,Ae (Bw b l) (rn 1/\(0:Int)<=b/\∃H:D,AX l b H/\∃y:Int,((D.cells H)[0]?=some (D.int .i64 y))/\Ae (decide (b > 0)) (rn 1/\(0:Int)<=wI (b-1)/\∃J:D,Pq c b J/\∃C:bA,B7 J C/\Ae (Bw b c) (rn 1/\(0:Int)<=b/\∃a1:D,AX c b a1/\∃a3:bA,B7 a1 a3/\∃(N:Nat)(a9 b7 a8 X:LD)(a6 b5 c0 b9 d1:Int)(c2:Nat)(Y:Bool),WL y e C a3 f a N a9 b7 a8 X a6 b5 c0 b9 d1 c2 Y/\Yi Y j N a9 b7 a8 X a6 b5 c0 b9 d1 c2 e l i h s c x u b A a f) (∃(Q:Nat)(c6 a7 c7 I:LD)(a4 b4 K b2 c5:Int)(c1:Nat)(U:Bool),WL y e C h f a Q c6 a7 c7 I a4 b4 K b2 c5 c1 U/\Yi U j Q c6 a7 c7 I a4 b4 K b2 c5 c1 e l i h s c x u b A a f)) (Ae (Bw b c) (rn 1/\(0:Int)<=b/\∃a2:D,AX c b a2/\∃b1:bA,B7 a2 b1/\∃(F:Nat)(b0 c8 Z c9:LD)(E G d2 b8 V:Int)(a5:Nat)(c4:Bool),WL y e i b1 f a F b0 c8 Z c9 E G d2 b8 V a5 c4/\Yi c4 j F b0 c8 Z c9 E G d2 b8 V a5 e l i h s c x u b A a f) (∃(a0:Nat)(T P S d0:LD)(b6 O L M b3:Int)(W:Nat)(c3:Bool),WL y e i h f a a0 T P S d0 b6 O L M b3 W c3/\Yi c3 j a0 T P S d0 b6 O L M b3 W e l i h s c x u b A a f))) (j (.tup []) [hR 7900305 (Prod.fst f) 4 1 (Prod.snd f),hB 7900307 [aL a.1,aL a.2.1,aL a.2.2.1,aI a.2.2.2.1,aI a.2.2.2.2.1,aI a.2.2.2.2.2.1,aI a.2.2.2.2.2.2.1,aI a.2.2.2.2.2.2.2.1,.row 7900305 a.2.2.2.2.2.2.2.2.1,aB a.2.2.2.2.2.2.2.2.2.1]])))
def Yr (d a b:LD)(c e h k:Int)(p r:bA)(v:Nat)(U:LD)(i g f:Int)(t:Bool)(R:AV->Heap->Prop):Prop:=
 ∃(l:Bool)(j m n:LD)(q:Int),Runs AG 155 [Bt d a b c e,aI h,aB (k==1)] [] (.tup [HY l j m n,aI q]) []/\Ae (q != 0) (ZQ R v U d a b c e i g f) (Ae (decide (k > 8)) (ZQ R v U d a b c e i g f) ((rn v/\rn 1)/\(0:Int)<=h/\Kk h U/\(rn v/\rn 1)/\∃s:D,AX U h s/\∃o:Bool,Dt s o/\Ae o (ZQ R v U d a b c e i g f) (Ae l (Ae ((j.length:Int)==0) (ZQ R v U d a b c e i g f) (lW v h U j p r R d a b c e i g f l t k m n)) (lW v h U j p r R d a b c e i g f l t k m n))))
def oA:=λa b c d e f g h i j k l m n o p=>PLift.up (by delta Yr BI RV WL Pq IM Kk Bw Qq Bt HY lW UA Dt ZQ bH AX bK UF B7 Yi Ol FO IN;exact rfl:Yr a b c d e f g h i j k l m n o p=_)
theorem oR (ba:LD)(no:LD)(pa:LD)(ro:Int)(ge:Int)(block:Int)(deep:Int)(low:bA)(high:bA)(v:Nat)(U:LD)(np:Int)(he:Int)(nb:Int)(bad:Bool)(R:AV->Heap->Prop):Vc AG c121.body (Af c121 [.ptr 7900307 0,aI block,aI deep,aS low,aS high]) [(7900305,.row false false v 4 1 U),(7900307,.box [aL ba,aL no,aL pa,aI ro,aI ge,aI np,aI he,aI nb,.row 7900305 v,aB bad])] (AQ c121 [(7900305,.row false false v 4 1 U),(7900307,.box [aL ba,aL no,aL pa,aI ro,aI ge,aI np,aI he,aI nb,.row 7900305 v,aB bad])] R)=Yr ba no pa ro ge block deep low high v U np he nb bad R:=by kernel_rfl
def V25 (b e:LD)(R:AV->Prop):Prop:=
 Ae (H5 b e) (R (.n (.bool false))) (∃(d:Int->Prop)(h:Int->Nat),(rh []/\d 0)/\∀a:Int,d a->∀l:Nat->AV,Ae (Bw a b) (rn 2/\(0:Int)<=a/\∃f:D,AX b a f/\∃(j g:bA),@Eq LD (List.take 2 (D.cells f)) [D.str j,D.str g]/\Tq f/\rn 2/\(0:Int)<=a/\∃c:D,AX e a c/\∃(k i:bA),@Eq LD (List.take 2 (D.cells c)) [D.str k,D.str i]/\Tq c/\Ae (Bool.not (KE j k&&(KE g i&&true))) (R (.n (.bool false))) (rq (.o (D.sl 2 b))/\rq (.o (D.sl 2 e))/\rq (aI (b.length:Int))/\rh []/\d (wI (a+1))/\((h (wI (a+1))):Nat)<h a)) (R (.n (.bool true))))
def AEK:=λa b c=>PLift.up (by delta V25 AX H5 Bw KE Tq;exact rfl:V25 a b c=_)
theorem ADK a b R:Vc AG c25.body (Af c25 [(.o (.sl 2 a)),(.o (.sl 2 b))]) [] (Aq c25 R)=V25 a b R:=by kernel_rfl
end Go.Proofs.YtjmpnbbeplgchabGreatDoor.M
