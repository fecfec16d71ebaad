import Derived.Test.YtjmpnbbeplgchabGreatDoorR6E
import Derived.Test.YtjmpnbbeplgchabGreatDoorR6FunB
import Derived.Test.YtjmpnbbeplgchabGreatDoorR6LV
namespace Go.Proofs.YtjmpnbbeplgchabGreatDoor.M
set_option linter.unusedVariables false
set_option linter.unusedSimpArgs false
open Go Go.Mir
def ADg (f:Int)(c:LD)(R:AV->Prop):Prop:=
 ∃(b:Unit->Int×Unit->Prop)(g:Unit->Int×Unit->Nat),(rh [hB 10100102 [aI (Cs true f 0)]]/\b () (Cs true f 0,()))/\∀(d:Unit)(a:Int×Unit),b d a->∀i:Nat->AV,∃h:Int,Runs Az 139 [aL c] [] (aI h) []/\Ae (decide (a.1<h)) (∃e:Bool,Runs Az 140 [aL c,.fn 141 [.ptr 10100102 0]] [hB 10100102 [aI a.1]] (aB e) [hB 10100102 [aI a.1]]/\Ae (Bool.not e) (R (.n (.int .i64 a.1))) (rq (aL c)/\rh [hB 10100102 [aI (wI (a.1+1))]]/\b () (wI (a.1+1),())/\((g () (wI (a.1+1),())):Nat)<g d a)) (R (.n (.int .i64 (-1))))
theorem wM a b R:Vc Az c101.body (Af c101 [aI a,aL b]) [] (Aq c101 R)=ADg a b R:=by kernel_rfl
abbrev U3 (a:AV->Prop):=
 a (.tup [aL [],aI 1])
def qY (h:LD)(e:Bool)(f:LD)(R:AV->Prop):Prop:=
 ∃(c:Nat)(i:LD),Runs Az 100 [aL h] [] (.row 10000001 c) [hR 10000001 c 4 1 i]/\∃(g:Int->Nat×LD->Prop)(k:Int->Nat×LD->Nat),(rh [hR 10250101 c 4 1 i]/\g 0 (c,i))/\∀(d:Int)(a:Nat×LD),g d a->∀l:Nat->AV,Ae (Bw d f) (rn 1/\(0:Int)<=d/\∃j:D,AX f d j/\∃b:Int,((D.cells j)[0]?=some (D.int .i64 b))/\Ae (decide (b<0)) (U3 R) (Ae (Jq b h) (U3 R) (Qf a c/\(0:Int)<=b/\MS b a/\Ww c a/\RC b a/\rq (aL h)/\rq (aB e)/\rq (.row 10250101 c)/\rq (aL f)/\rq (aI (f.length:Int))/\rh [hR 10250101 (Prod.fst a) 4 1 (List.set (Prod.snd a) (Int.toNat b) (D.bool e))]/\g (wI (d+1)) (Prod.fst a,List.set (Prod.snd a) (Int.toNat b) (D.bool e))/\((k (wI (d+1)) (Prod.fst a,List.set (Prod.snd a) (Int.toNat b) (D.bool e))):Nat)<k d a))) (Prod.fst a=c/\R (.tup [aL (Prod.snd a),aI 0]))
def ACV:=λa b c d=>PLift.up (by delta qY MD Ww RC U3 Jq AX MS Bw Qf;exact rfl:qY a b c d=_)
theorem ADd b c a R:Vc Az c102.body (Af c102 [aL b,aB c,aL a]) [] (Aq c102 R)=qY b c a R:=by kernel_rfl
abbrev RI:AV:=
 .agg [aL [],aL []]
def V54 (b c:LD)(R:AV->Prop):Prop:=
 ∃e:Bool,Runs Az 82 (Hr b c) [] (aB e) []/\Ae (Bool.not e) (R (.tup [RI,aI 0,aI 1])) (0=0/\∃a:Int,Runs Az 101 [aI 0,aL [D.sl 1 b,D.sl 1 c]] [] (aI a) []/\Ae (decide (a<0)) (R (.tup [RI,aI 0,aI 60])) (0=0/\∃(f:LD)(d:Int),Runs Az 102 [aL c,aB true,aL [D.int .i64 a]] [] (.tup [aL f,aI d]) []/\R (.tup [.agg [aL b,aL f],aI a,aI d])))
def AJI:=λa b c=>PLift.up (by delta V54 Hr RI;exact rfl:V54 a b c=_)
theorem AEN a b R:Vc Az c54.body (Af c54 [(.agg [aL a,aL b])]) [] (Aq c54 R)=V54 a b R:=by kernel_rfl
abbrev Ya (a:AV->Prop):=
 a (.tup [RI,aI 1])
abbrev bW (a:AV->Prop):=
 a (.tup [RI,aI 30])
abbrev aH (b:(Nat×LD))(a:Int):=
 List.set (Prod.snd b) (Int.toNat a) (D.bool false)
def V92 (e g f:LD)(R:AV->Prop):Prop:=
 ∃p:Bool,Runs Az 82 (Hr e g) [] (aB p) []/\Ae (Bool.not p) (Ya R) (∃(c:Nat)(h:LD),Runs Az 100 [aL g] [] (.row 10000001 c) [hR 10000001 c 4 1 h]/\∃(i:Int->Wa->Nat×LD->Prop)(l:Int->Wa->Nat×LD->Nat),(rh [hB 9200000 [aL e,aL g],hB 9200001 fK,hR 9250302 c 4 1 h]/\i 0 ((),(),()) (c,h))/\∀(d:Int)(k:Wa)(a:Nat×LD),i d k a->∀r:Nat->AV,Ae (Bw d f) (rn 1/\(0:Int)<=d/\∃q:D,AX f d q/\∃b:Int,((D.cells q)[0]?=some (D.int .i64 b))/\Ae (decide (b<10)) (bW R) (MD a c/\Ae (decide (b>=((Prod.snd a).length:Int))) (bW R) (Qf a c/\(0:Int)<=b/\MS b a/\eA c a/\∃j:D,fA a b j/\∃m:Bool,Dt j m/\Ae (Bool.not m) (bW R) (Qf a c/\(0:Int)<=b/\MS b a/\Ww c a/\RC b a/\rq (.ptr 9200000 0)/\rq (.ptr 9200001 0)/\rq (.row 9250302 c)/\rq (aL f)/\rq (aI (f.length:Int))/\rh [hB 9200000 [aL e,aL g],hB 9200001 fK,hR 9250302 (Prod.fst a) 4 1 (aH a b)]/\i (wI (d+1)) ((),(),()) (Prod.fst a,aH a b)/\((l (wI (d+1)) ((),(),()) (Prod.fst a,aH a b)):Nat)<l d k a)))) (Prod.fst a=c/\R (.tup [.agg [aL e,aL (Prod.snd a)],aI 0])))
def AGw:=λa b c d=>PLift.up (by delta V92 MD Dt Ww RC fA eA aH AX Wa fK RI Hr MS Bw bW Qf Ya;exact rfl:V92 a b c d=_)
theorem AIX a c b R:Vc Az c92.body (Af c92 [(.agg [aL a,aL c]),aL b]) [] (Aq c92 R)=V92 a c b R:=by kernel_rfl
abbrev qA:=
 Int->bA×Unit->Prop
abbrev UX (a:Bool)(c d e:LD)(b:bA):=
 rh [hB 12500000 [aB a,aL c,aL d,aL e],hB 12500307 [aS b]]
abbrev lD (b a c:bA):=
 Runs Az 159 [aS b,.ptr 12500307 0] [hB 12500307 [aS a]] (.tup []) [hB 12500307 [aS c]]
abbrev aG:=
 rq (.fn 159 [.ptr 12500307 0])
def oB (e:Bool)(a f c:LD)(R:AV->Prop):Prop:=
 ∃z:Bool,Runs Az 158 [Bj e a f c,aB true] [] (aB z) []/\Ae (Bool.not z) (KD R) (∃(g:bA)(C:Int),Runs Az 104 [aI (a.length:Int),aI 1] [] (.tup [aS g,aI C]) []/\Ae e (∃(p:qA)(v:Int->bA×Unit->Nat),(UX e a f c g/\p 0 (g,()))/\∀(d:Int)(j:bA×Unit),p d j->∀F:Nat->AV,Ae (Bw d a) (rn 1/\(0:Int)<=d/\∃w:D,AX a d w/\∃A:bA,B7 w A/\∃t:bA,Runs Az 159 [aS A,.ptr 12500307 0] [hB 12500307 [aS j.1]] (.tup []) [hB 12500307 [aS t]]/\rn 1/\(0:Int)<=d/\∃q:D,AX f d q/\∃x:bA,B7 q x/\∃o:bA,lD x t o/\rq (.ptr 12500000 0)/\rq (.ptr 12500307 0)/\aG/\rq (aL a)/\E5 a/\UX e a f c o/\p (wI (d+1)) (o,())/\((v (wI (d+1)) (o,())):Nat)<v d j) (R (.tup [aS j.1,aI 0]))) (∃(k:qA)(l:Int->bA×Unit->Nat),(UX e a f c g/\k 0 (g,()))/\∀(b:Int)(i:bA×Unit),k b i->∀G:Nat->AV,Ae (Bw b c) (rn 1/\(0:Int)<=b/\∃u:D,AX c b u/\∃s:Int,((D.cells u)[0]?=some (D.int .i64 s))/\∃(y:bA)(E:Int),Runs Az 104 [aI s,aI 2] [] (.tup [aS y,aI E]) []/\0=0/\∃h:bA,Runs Az 108 [aL [D.str i.1,D.str y]] [] (aS h) []/\Ae (Bw b a) (rn 1/\(0:Int)<=b/\∃B:D,AX a b B/\∃r:bA,B7 B r/\∃m:bA,lD r h m/\rq (.ptr 12500000 0)/\rq (.ptr 12500307 0)/\aG/\rq (aL c)/\E5 c/\UX e a f c m/\k (wI (b+1)) (m,())/\((l (wI (b+1)) (m,())):Nat)<l b i) (rq (.ptr 12500000 0)/\rq (.ptr 12500307 0)/\aG/\rq (aL c)/\E5 c/\UX e a f c h/\k (wI (b+1)) (h,())/\((l (wI (b+1)) (h,())):Nat)<l b i)) (R (.tup [aS i.1,aI 0]))))
def AAZ:=λa b c d e=>PLift.up (by delta oB EE qA AX aG E4 KD Bj lD Bw UX E5 B7;exact rfl:oB a b c d e=_)
theorem wJ a d b c R:Vc Az c125.body (Af c125 [(.agg [aB a,aL d,aL b,aL c])]) [] (Aq c125 R)=oB a d b c R:=by kernel_rfl
abbrev VA (a:Bool)(c d e:LD)(b:Bool):=
 Runs Az 160 [Bj a c d e] [] (aB b) []
abbrev Vk (a:LD):=
 (4:Int)<=(a.length:Int)
abbrev cY (b a:LD):=
 Runs Az 198 [aL [D.sl 1 (List.drop 0 (List.take (Int.toNat 4) b))]] [] (aL a) []
abbrev OH (a:LD):=
 List.take (List.length a) a
abbrev oX (b a:LD):=
 Runs Az 198 [aL [D.sl 1 (List.drop (Int.toNat 4) (OH b))]] [] (aL a) []
abbrev kL (b a:LD):AV:=
 .agg [aB true,aL b,aL a,aL []]
abbrev dD (a:LD):=
 (5:Int)<=(a.length:Int)
abbrev oK (b a:LD):AV:=
 .agg [aB false,aL b,aL [],aL a]
def pO (e:Bool)(a c b:LD)(R:AV->Prop):Prop:=
 ∃h:Bool,VA e a c b h/\Ae (Bool.not h) (R (.tup [FF,E4,FF,aI 1])) (Ae ((a.length:Int) != 9) (R (.tup [FF,E4,FF,aI 1])) (rn 1/\(0:Int)<=4/\∃k:D,(a[Int.toNat 4]?=some k)/\∃d:bA,B7 k d/\Ae e (rn 1/\(0:Int)<=4/\Vk a/\0=0/\∃g:LD,cY a g/\rn 1/\(0:Int)<=4/\Vk c/\0=0/\∃o:LD,cY c o/\rn 1/\(0:Int)<=4/\Vk a/\0=0/\∃j:LD,oX a j/\rn 1/\(0:Int)<=4/\Vk c/\0=0/\∃i:LD,oX c i/\R (.tup [kL g o,aS d,kL j i,aI 0])) (rn 1/\(0:Int)<=4/\Vk a/\0=0/\∃f:LD,cY a f/\rn 1/\(0:Int)<=5/\dD b/\0=0/\∃p:LD,Runs Az 199 [aL [D.sl 1 (List.drop 0 (List.take (Int.toNat 5) b))]] [] (aL p) []/\rn 1/\(0:Int)<=5/\dD a/\0=0/\∃l:LD,Runs Az 198 [aL [D.sl 1 (List.drop (Int.toNat 5) (OH a))]] [] (aL l) []/\rn 1/\(0:Int)<=5/\dD b/\0=0/\∃m:LD,Runs Az 199 [aL [D.sl 1 (List.drop (Int.toNat 5) (OH b))]] [] (aL m) []/\R (.tup [oK f p,aS d,oK l m,aI 0]))))
def ACT:=λa b c d e=>PLift.up (by delta pO kL VA EE Bj dD E4 OH oX oK cY FF B7 Vk;exact rfl:pO a b c d e=_)
theorem zJ a d b c R:Vc Az c162.body (Af c162 [(.agg [aB a,aL d,aL b,aL c])]) [] (Aq c162 R)=pO a d b c R:=by kernel_rfl
abbrev Yx (a:AV->Prop):=
 a (.tup [FF,aI 1])
abbrev MQ (b a:LD):List AV:=
 [aL [D.sl 1 b,D.sl 1 a]]
abbrev lI (a:Bool)(c e f:LD)(b:AV->Prop):=
 ∃d:Bool,VA a c e f d/\Ae (Bool.not d) (Yx b) (b (.tup [L5 a c e f,aI 0]))
def qG (a:Bool)(d g f:LD)(o:bA)(n:Bool)(c m h:LD)(R:AV->Prop):Prop:=
 ∃i:Bool,VA a d g f i/\Ae (Bool.not i) (Yx R) (∃l:Bool,VA n c m h l/\Ae (Bool.not l) (Yx R) (Ae (Bool.not (a==n)) (Yx R) (0=0/\∃j:LD,Runs Az 198 (MQ d c) [] (aL j) []/\0=0/\∃b:LD,Runs Az 198 (MQ g m) [] (aL b) []/\0=0/\∃e:LD,Runs Az 199 (MQ f h) [] (aL e) []/\Ae (Bool.not a) (0=0/\∃k:LD,Runs Az 198 [aL [D.sl 1 d,D.sl 1 [D.str o],D.sl 1 c]] [] (aL k) []/\lI a k b e R) (lI a j b e R))))
def AAc:=λa b c d e f g h i j=>PLift.up (by delta qG lI Yx VA MQ Bj L5 FF;exact rfl:qG a b c d e f g h i j=_)
theorem xT a g c b f i e h d R:Vc Az c169.body (Af c169 [(.agg [aB a,aL g,aL c,aL b]),aS f,(.agg [aB i,aL e,aL h,aL d])]) [] (Aq c169 R)=qG a g c b f i e h d R:=by kernel_rfl
def AB7 (b:LD)(R:AV->Prop):Prop:=
 ∃a:LD,Runs Az 202 [aL b] [] (aL a) []/\R (.o (.sl 1 a))
theorem ADy a R:Vc Az c198.body (Af c198 [aL a]) [] (Aq c198 R)=AB7 a R:=by kernel_rfl
def wC (b:LD)(R:AV->Prop):Prop:=
 ∃a:LD,Runs Az 203 [aL b] [] (aL a) []/\R (.o (.sl 1 a))
theorem wL a R:Vc Az c199.body (Af c199 [aL a]) [] (Aq c199 R)=wC a R:=by kernel_rfl
abbrev eM (a:Int)(b:LD)(d:Int)(g:(Int->(Int->Prop)))(e:(Int->(Int->Nat))):=
 rn 1/\(0:Int)<=a/\∃f:D,AX b a f/\∃c:LD,Me f c/\Ae (decide (wI (d+(c.length:Int))<0)) False (rq (aL b)/\rq (aL b)/\rq (aI (b.length:Int))/\rh []/\g (wI (d+(c.length:Int))) (wI (a+1))/\((e (wI (d+(c.length:Int))) (wI (a+1))):Nat)<e d a)
def rP (e:LD)(R:AV->Prop):Prop:=
 ∃(j:Int->Int->Prop)(o:Int->Int->Nat),(rh []/\j 0 0)/\∀(g i:Int),j g i->∀q:Nat->AV,Ae (Bw i e) (eM i e g j o) (∃(f:Nat)(h:LD),Runs Az 218 [.n D.nil,aI g] [] (.row 21800001 f) [hR 21800001 f 9 1 h]/\∃(k:aF)(l:fZ),(rh [hR 20250901 f 9 1 h]/\k f 0 (f,h))/\∀(a:Nat)(c:Int)(b:Nat×LD),k a c b->∀p:Nat->AV,Ae (Bw c e) (rn 1/\(0:Int)<=c/\∃m:D,AX e c m/\∃d:LD,Me m d/\(rn 1\/@Eq LD d [])/\((MD b a/\rn 9)/\rn 1)/\(((Hq b+List.length d)*16):Nat)<=140737488355328/\rq (aL e)/\rq (aI (e.length:Int))/\rh [hR 20250901 (a+1) 9 1 (Prod.snd b++d)]/\k (a+1) (wI (c+1)) (a+1,Prod.snd b++d)/\((l (a+1) (wI (c+1)) (a+1,Prod.snd b++d)):Nat)<l a c b) (Q8 b a R))
def yH:=λa b=>PLift.up (by delta rP MD AX Q8 fZ Bw Hq aF Me eM;exact rfl:rP a b=_)
theorem ACo a R:Vc Az c202.body (Af c202 [aL a]) [] (Aq c202 R)=rP a R:=by kernel_rfl
def rD (e:LD)(R:AV->Prop):Prop:=
 ∃(j:Int->Int->Prop)(o:Int->Int->Nat),(rh []/\j 0 0)/\∀(g i:Int),j g i->∀q:Nat->AV,Ae (Bw i e) (eM i e g j o) (∃(f:Nat)(h:LD),Runs Az 219 [.n D.nil,aI g] [] (.row 21900001 f) [hR 21900001 f 3 1 h]/\∃(k:aF)(l:fZ),(rh [hR 20350901 f 3 1 h]/\k f 0 (f,h))/\∀(a:Nat)(c:Int)(b:Nat×LD),k a c b->∀p:Nat->AV,Ae (Bw c e) (rn 1/\(0:Int)<=c/\∃m:D,AX e c m/\∃d:LD,Me m d/\(rn 1\/@Eq LD d [])/\((MD b a/\rn 3)/\rn 1)/\(((Hq b+List.length d)*8):Nat)<=140737488355328/\rq (aL e)/\rq (aI (e.length:Int))/\rh [hR 20350901 (a+1) 3 1 (Prod.snd b++d)]/\k (a+1) (wI (c+1)) (a+1,Prod.snd b++d)/\((l (a+1) (wI (c+1)) (a+1,Prod.snd b++d)):Nat)<l a c b) (Q8 b a R))
def AAh:=λa b=>PLift.up (by delta rD MD AX Q8 fZ Bw Hq aF Me eM;exact rfl:rD a b=_)
theorem ADf a R:Vc Az c203.body (Af c203 [aL a]) [] (Aq c203 R)=rD a R:=by kernel_rfl
def V85 (a b:bA)(R:AV->Prop):Prop:=
 Ae (V2 a) (Ae (VY a) (R (.n (.bool (decide ((((ByteArray.size b):Nat):Int)<=200))))) (R (.n (.bool false)))) (R (.n (.bool false)))
def AJM:=λa b c=>PLift.up (by delta V85 VY V2;exact rfl:V85 a b c=_)
theorem AHz a b R:Vc Az c85.body (Af c85 [aS a,aS b]) [] (Aq c85 R)=V85 a b R:=by kernel_rfl
abbrev Pn:AV:=
 .agg [aL [],aL [],aL [],aI 0,aI 0]
abbrev MN (a:AV->Prop):=
 a (.tup [Pn,aI 1])
abbrev BB (b d:LD)(e:Nat)(f c a:Int):=
 hB 8600202 [aL b,aL d,.row 8650102 e,aI f,aI c,aI a]
abbrev R6 (x h:LD)(j:Nat)(z t s:Int)(l:Nat)(g:LD)(p:AV->Prop):=
 ∃(e c f:LD)(b d a:Int)(w:Bool)(m k:LD)(y:Nat)(r q u:Int)(v:Nat)(i:LD),Runs Az 88 [.ptr 8600202 0] [BB x h j z t s,hR 8650102 l 9 1 g] (.tup [Bt e c f b d,aI a]) [BB m k y r q u,(8650102,.row w false v 9 1 i)]/\p (.tup [.agg [aL e,aL c,aL f,aI b,aI d],aI a])
abbrev Kq (b a:bA):=
 hB 4700305 [.ptr 8600202 0,aS b,aS a]
def V47 (t y E:LD)(a x:Int)(n k:bA)(R:AV->Prop):Prop:=
 ∃G:Bool,Runs Az 46 [Bt t y E a x] [] (aB G) []/\Ae (Bool.not G) (MN R) (∃L:Bool,Runs Az 85 [aS n,aS k] [] (aB L) []/\Ae (Bool.not L) (MN R) (∃(Z:Unit)(h f:LD)(s:Nat)(e l g:Int)(r:Nat)(p:LD),Runs Az 86 [Bt t y E a x] [] (.ptr 8600202 0) [BB h f s e l g,hR 8650102 r 9 1 p]/\Ae (a==0) (0=0/\0=0/\∃(u:Int)(N H:LD)(z:Nat)(U F Q:Int)(J:Nat)(M:LD),Runs Az 87 [.ptr 8600202 0,.agg [aB true,aL [D.str n],aL [D.str k],aL []]] [BB h f s e l g,hR 8650102 r 9 1 p] (aI u) [BB N H z U F Q,hR 8650102 J 9 1 M]/\R6 N H z u F Q J M R) (∃(b A:Int)(O:bA)(P:Bool)(V W:bA)(o i:LD)(d:Nat)(X m c:Int)(j:Nat)(q:LD),Runs Az 89 [.ptr 4700305 0,aI a,aI 1] [Kq n k,BB h f s e l g,hR 8650102 r 9 1 p] (.agg [aI b,aI A,aS O,aB P]) [Kq V W,BB o i d X m c,hR 8650102 j 9 1 q]/\Ae P (0=0/\0=0/\∃(I:Int)(S v:LD)(w:Nat)(Y B C:Int)(T:Nat)(K:LD),Runs Az 87 [.ptr 8600202 0,.agg [aB false,aL [D.str O],aL [],aL [D.int .i64 b,D.int .i64 A]]] [BB o i d b m c,hR 8650102 j 9 1 q] (aI I) [BB S v w Y B C,hR 8650102 T 9 1 K]/\R6 S v w I B C T K R) (R6 o i d b m c j q R))))
def AD6:=λa b c d e f g h=>PLift.up (by delta V47 MN R6 Pn BI BB Bt Kq;exact rfl:V47 a b c d e f g h=_)
theorem AEB a f c b d e g R:Vc Az c47.body (Af c47 [(.agg [aL a,aL f,aL c,aI b,aI d]),aS e,aS g]) [] (Aq c47 R)=V47 a f c b d e g R:=by kernel_rfl
def V48 (a:bA)(R:AV->Prop):Prop:=
 Ae (V2 a) (R (.n (.bool (VY a)))) (R (.n (.bool false)))
def AHK:=λa b=>PLift.up (by delta V48 VY V2;exact rfl:V48 a b=_)
theorem AFg a R:Vc Az c48.body (Af c48 [aS a]) [] (Aq c48 R)=V48 a R:=by kernel_rfl
abbrev Kr (b:LD)(a:Nat)(c:LD):=
 Runs Az 124 [aL b] [] (.row 12400001 a) [hR 12400001 a 9 1 c]
def oF (h:Bool)(k j i:LD)(c:Int)(R:AV->Prop):Prop:=
 ∃(b:Nat)(f:LD),Kr k b f/\∃d:LD,Runs Az 167 [.row 13450102 b,aI c,FO c] [hR 13450102 b 9 1 f] (.row 13450102 (b+1)) [hR 13450102 (b+1) 9 1 d]/\∃(a:Nat)(g:LD),Kr j a g/\∃e:LD,Runs Az 167 [.row 13450202 a,aI c,FO c] [hR 13450202 a 9 1 g] (.row 13450202 (a+1)) [hR 13450202 (a+1) 9 1 e]/\b+1=b+1/\a+1=a+1/\R (L5 h d e i)
def ABU:=λa b c d e f=>PLift.up (by delta oF FO Kr L5;exact rfl:oF a b c d e f=_)
theorem ACd a e c b d R:Vc Az c134.body (Af c134 [(.agg [aB a,aL e,aL c,aL b]),aI d]) [] (Aq c134 R)=oF a e c b d R:=by kernel_rfl
abbrev cI (b a:LD):AV:=
 aL (List.drop 0 (List.take (Int.toNat (wI ((b.length:Int)-1))) a))
abbrev tS (b a:LD):AV:=
 aL (List.drop (Int.toNat (wI ((b.length:Int)-1))) (OH a))
abbrev pV (b:LD)(a:bA)(d c:LD):=
 Runs Az 202 [aL [D.sl 1 b,D.sl 1 [D.str a],D.sl 1 d]] [] (aL c) []
abbrev oD (b a:LD):AV:=
 aL (List.drop (Int.toNat (wI (wI ((b.length:Int)-1)+1))) (OH a))
abbrev eH (b a:LD):AV:=
 aL (List.drop 0 (List.take (Int.toNat (wI ((b.length:Int)+1))) a))
abbrev mC (b a:LD):AV:=
 aL (List.drop (Int.toNat (wI ((b.length:Int)+1))) (OH a))
abbrev kZ (b a:LD):AV:=
 aL (List.drop (Int.toNat (wI (wI ((b.length:Int)+1)+1))) (OH a))
def mA (j:Bool)(a v l:LD)(r:bA)(z:Bool)(i y m:LD)(R:AV->Prop):Prop:=
 0=0/\∃b:LD,Runs Az 202 (MQ a i) [] (aL b) []/\Ae (decide ((a.length:Int) > (i.length:Int))) (Ae j (0=0/\∃f:LD,Runs Az 202 (MQ v y) [] (aL f) []/\rn 1/\(0:Int)<=wI ((a.length:Int)-1)/\((wI ((a.length:Int)-1)):Int)<=(b.length:Int)/\(0:Int)<=wI ((a.length:Int)-1)/\((wI ((a.length:Int)-1)):Int)<=(((Int.toNat (wI ((a.length:Int)-1))):Nat):Int)/\rn 1/\(0:Int)<=wI ((a.length:Int)-1)/\((wI ((a.length:Int)-1)):Int)<=(f.length:Int)/\(0:Int)<=wI ((a.length:Int)-1)/\((wI ((a.length:Int)-1)):Int)<=(((Int.toNat (wI ((a.length:Int)-1))):Nat):Int)/\rn 1/\(0:Int)<=wI ((a.length:Int)-1)/\∃p:D,(b[Int.toNat (wI ((a.length:Int)-1))]?=some p)/\∃u:bA,B7 p u/\rn 1/\(0:Int)<=wI ((a.length:Int)-1)/\((wI ((a.length:Int)-1)):Int)<=(b.length:Int)/\rn 1/\(0:Int)<=wI ((a.length:Int)-1)/\((wI ((a.length:Int)-1)):Int)<=(f.length:Int)/\R (.tup [.agg [aB true,cI a b,cI a f,aL []],aS u,.agg [aB true,tS a b,tS a f,aL []]])) (0=0/\∃d:LD,pV a r i d/\0=0/\∃e:LD,Runs Az 203 (MQ l m) [] (aL e) []/\rn 1/\(0:Int)<=wI ((a.length:Int)-1)/\((wI ((a.length:Int)-1)):Int)<=(d.length:Int)/\(0:Int)<=wI ((a.length:Int)-1)/\((wI ((a.length:Int)-1)):Int)<=(((Int.toNat (wI ((a.length:Int)-1))):Nat):Int)/\rn 1/\(0:Int)<=wI (wI ((a.length:Int)-1)+1)/\((wI (wI ((a.length:Int)-1)+1)):Int)<=(e.length:Int)/\(0:Int)<=wI (wI ((a.length:Int)-1)+1)/\((wI (wI ((a.length:Int)-1)+1)):Int)<=(((Int.toNat (wI (wI ((a.length:Int)-1)+1))):Nat):Int)/\rn 1/\(0:Int)<=wI ((a.length:Int)-1)/\∃q:D,(d[Int.toNat (wI ((a.length:Int)-1))]?=some q)/\∃k:bA,B7 q k/\rn 1/\(0:Int)<=wI (wI ((a.length:Int)-1)+1)/\((wI (wI ((a.length:Int)-1)+1)):Int)<=(d.length:Int)/\rn 1/\(0:Int)<=wI (wI ((a.length:Int)-1)+1)/\((wI (wI ((a.length:Int)-1)+1)):Int)<=(e.length:Int)/\R (.tup [.agg [aB false,cI a d,aL [],aL (List.drop 0 (List.take (Int.toNat (wI (wI ((a.length:Int)-1)+1))) e))],aS k,.agg [aB false,oD a d,aL [],oD a e]]))) (Ae j (0=0/\∃h:LD,Runs Az 202 (MQ v y) [] (aL h) []/\rn 1/\(0:Int)<=wI ((a.length:Int)+1)/\((wI ((a.length:Int)+1)):Int)<=(b.length:Int)/\(0:Int)<=wI ((a.length:Int)+1)/\((wI ((a.length:Int)+1)):Int)<=(((Int.toNat (wI ((a.length:Int)+1))):Nat):Int)/\rn 1/\(0:Int)<=wI ((a.length:Int)+1)/\((wI ((a.length:Int)+1)):Int)<=(h.length:Int)/\(0:Int)<=wI ((a.length:Int)+1)/\((wI ((a.length:Int)+1)):Int)<=(((Int.toNat (wI ((a.length:Int)+1))):Nat):Int)/\rn 1/\(0:Int)<=wI ((a.length:Int)+1)/\∃w:D,(b[Int.toNat (wI ((a.length:Int)+1))]?=some w)/\∃s:bA,B7 w s/\rn 1/\(0:Int)<=wI ((a.length:Int)+1)/\((wI ((a.length:Int)+1)):Int)<=(b.length:Int)/\rn 1/\(0:Int)<=wI ((a.length:Int)+1)/\((wI ((a.length:Int)+1)):Int)<=(h.length:Int)/\R (.tup [.agg [aB true,eH a b,eH a h,aL []],aS s,.agg [aB true,mC a b,mC a h,aL []]])) (0=0/\∃c:LD,pV a r i c/\0=0/\∃g:LD,Runs Az 203 (MQ l m) [] (aL g) []/\rn 1/\(0:Int)<=wI ((a.length:Int)+1)/\((wI ((a.length:Int)+1)):Int)<=(c.length:Int)/\(0:Int)<=wI ((a.length:Int)+1)/\((wI ((a.length:Int)+1)):Int)<=(((Int.toNat (wI ((a.length:Int)+1))):Nat):Int)/\rn 1/\(0:Int)<=wI (wI ((a.length:Int)+1)+1)/\((wI (wI ((a.length:Int)+1)+1)):Int)<=(g.length:Int)/\(0:Int)<=wI (wI ((a.length:Int)+1)+1)/\((wI (wI ((a.length:Int)+1)+1)):Int)<=(((Int.toNat (wI (wI ((a.length:Int)+1)+1))):Nat):Int)/\rn 1/\(0:Int)<=wI ((a.length:Int)+1)/\∃x:D,(c[Int.toNat (wI ((a.length:Int)+1))]?=some x)/\∃t:bA,B7 x t/\rn 1/\(0:Int)<=wI (wI ((a.length:Int)+1)+1)/\((wI (wI ((a.length:Int)+1)+1)):Int)<=(c.length:Int)/\rn 1/\(0:Int)<=wI (wI ((a.length:Int)+1)+1)/\((wI (wI ((a.length:Int)+1)+1)):Int)<=(g.length:Int)/\R (.tup [.agg [aB false,eH a c,aL [],aL (List.drop 0 (List.take (Int.toNat (wI (wI ((a.length:Int)+1)+1))) g))],aS t,.agg [aB false,kZ a c,aL [],kZ a g]])))
def ADw:=λa b c d e f g h i j=>PLift.up (by delta mA oD MQ OH mC pV kZ cI tS B7 eH;exact rfl:mA a b c d e f g h i j=_)
theorem AAw a g c b f i e h d R:Vc Az c171.body (Af c171 [(.agg [aB a,aL g,aL c,aL b]),aS f,(.agg [aB i,aL e,aL h,aL d])]) [] (Aq c171 R)=mA a g c b f i e h d R:=by kernel_rfl
abbrev MC (a:bA):=
 hB 4900504 [.ptr 8600202 0,aS a]
abbrev MV (s:Bool)(f h u p o:LD)(i:Nat)(e m b:Int)(a:Nat)(r:LD)(d:Int)(g l:LD)(c:Nat)(n q k:Int)(j:Nat)(t:LD):=
 Runs Az 87 [.ptr 8600202 0,Bj s f h u] [BB p o i e m b,hR 8650102 a 9 1 r] (aI d) [BB g l c n q k,hR 8650102 j 9 1 t]
def V49 (l t x:LD)(b s:Int)(I:bA)(R:AV->Prop):Prop:=
 ∃y:Bool,Runs Az 46 [Bt l t x b s] [] (aB y) []/\Ae (Bool.not y) (MN R) (∃J:Bool,Runs Az 48 [aS I] [] (aB J) []/\Ae (Bool.not J) (MN R) (Ae (b==0) (R (.tup [Pn,aI 80])) (∃(x2:Unit)(w u:LD)(U:Nat)(r G v:Int)(T:Nat)(K:LD),Runs Az 86 [Bt l t x b s] [] (.ptr 8600202 0) [BB w u U r G v,hR 8650102 T 9 1 K]/\∃(i:Bool)(k A j:LD)(X:bA)(d h:LD)(f:Nat)(L g a:Int)(e:Nat)(c:LD),Runs Az 90 [.ptr 4900504 0,aI b,aI 1] [MC I,BB w u U r G v,hR 8650102 T 9 1 K] (Bj i k A j) [MC X,BB d h f L g a,hR 8650102 e 9 1 c]/\Ae (a != 0) (R (.tup [Pn,aI a])) (Ae (decide ((k.length:Int) > 0)) (∃(B:Int)(m N:LD)(z:Nat)(Y Q F:Int)(C:Nat)(M:LD),MV i k A j d h f L g a e c B m N z Y Q F C M/\R6 m N z B Q F C M R) (Ae i (∃(O E P:LD)(p q V:Int)(W:Bool)(Z a6:LD)(a2:Nat)(a0 a7 a3:Int)(a4:Nat)(a5:LD),Runs Az 88 [.ptr 8600202 0] [hB 8600202 [aL d,aL h,.row 8650102 f,aI 0,aI g,aI a],hR 8650102 e 9 1 c] (.tup [Bt O E P p q,aI V]) [BB Z a6 a2 a0 a7 a3,(8650102,.row W false a4 9 1 a5)]/\R (.tup [.agg [aL O,aL E,aL P,aI p,aI q],aI V])) (rn 1/\(0:Int)<=0/\∃S:D,(j[Int.toNat 0]?=some S)/\∃H:Int,((D.cells S)[0]?=some (D.int .i64 H))/\R6 d h f H g a e c R))))))
def AHp:=λa b c d e f g=>PLift.up (by delta V49 MN MV R6 Bj Pn BI MC BB Bt;exact rfl:V49 a b c d e f g=_)
theorem AEP a f c b d e R:Vc Az c49.body (Af c49 [(.agg [aL a,aL f,aL c,aI b,aI d]),aS e]) [] (Aq c49 R)=V49 a f c b d e R:=by kernel_rfl
abbrev HS:=
 LD×LD×Int×Int×Unit
abbrev Sq:=
 Unit×Unit×Unit×Int×Int×Unit
abbrev jI (h:Int)(m:AV->Prop)(i g e d:LD)(c f:Int)(a:Sq)(k:(Int->((LD×HS)->(Sq->Prop))))(b:Int)(j:(Int->((LD×HS)->(Sq->Nat))))(l:(LD×HS)):=
 Ae (h != 0) (m (.tup [Pn,aI h])) (rq (.ptr 1100000 0)/\rq (.ptr 1100001 0)/\rq (.o (D.sl 3 i))/\rq (aI (i.length:Int))/\rh [hB 1100000 (BI g e d c f),hB 1100001 [.n D.nil,.n D.nil,.n D.nil,aI a.2.2.2.1,aI a.2.2.2.2.1]]/\k (wI (b+1)) (g,e,d,c,f,()) ((),(),(),a.2.2.2.1,a.2.2.2.2.1,())/\((j (wI (b+1)) (g,e,d,c,f,()) ((),(),(),a.2.2.2.1,a.2.2.2.2.1,())):Nat)<j b l a)
def V11 (h m p:LD)(j k:Int)(d:LD)(R:AV->Prop):Prop:=
 ∃B:Bool,Runs Az 46 [Bt h m p j k] [] (aB B) []/\Ae (Bool.not B) (MN R) (∃(e:Int->LD×HS->Sq->Prop)(f:Int->LD×HS->Sq->Nat),(rh [hB 1100000 (BI h m p j k),hB 1100001 [.n D.nil,.n D.nil,.n D.nil,aI 0,aI 0]]/\e 0 (h,m,p,j,k,()) ((),(),(),0,0,()))/\∀(c:Int)(a:LD×HS)(b:Sq),e c a b->∀G:Nat->AV,Ae (Bw c d) (rn 3/\(0:Int)<=c/\∃i:D,AX d c i/\∃(g q:bA)(u:Bool),Py i g q u/\Q4 i/\Ae (Bool.not u) (∃(r x E:LD)(v y A:Int),Runs Az 47 [.agg [aL a.1,aL a.2.1,aL a.2.2.1,aI a.2.2.2.1,aI a.2.2.2.2.1],aS g,aS q] [] (.tup [Bt r x E v y,aI A]) []/\jI A R d r x E v y b e c f a) (∃C:Bool,Runs Az 48 [aS g] [] (aB C) []/\Ae (Bool.not C) (MN R) (Ae (Bool.not (Wx q)) (MN R) (∃(s w t:LD)(z F l:Int),Runs Az 49 [.agg [aL a.1,aL a.2.1,aL a.2.2.1,aI a.2.2.2.1,aI a.2.2.2.2.1],aS g] [] (.tup [Bt s w t z F,aI l]) []/\Ae (l==80) (rq (.ptr 1100000 0)/\rq (.ptr 1100001 0)/\rq (.o (D.sl 3 d))/\rq (aI (d.length:Int))/\rh [hB 1100000 [aL a.1,aL a.2.1,aL a.2.2.1,aI a.2.2.2.1,aI a.2.2.2.2.1],hB 1100001 [.n D.nil,.n D.nil,.n D.nil,aI b.2.2.2.1,aI b.2.2.2.2.1]]/\e (wI (c+1)) (a.1,a.2.1,a.2.2.1,a.2.2.2.1,a.2.2.2.2.1,()) ((),(),(),b.2.2.2.1,b.2.2.2.2.1,())/\((f (wI (c+1)) (a.1,a.2.1,a.2.2.1,a.2.2.2.1,a.2.2.2.2.1,()) ((),(),(),b.2.2.2.1,b.2.2.2.2.1,())):Nat)<f c a b) (jI l R d s w t z F b e c f a))))) (R (.tup [.agg [aL a.1,aL a.2.1,aL a.2.2.1,aI a.2.2.2.1,aI a.2.2.2.2.1],aI 0])))
def AGI:=λa b c d e f g=>PLift.up (by delta V11 Py MN Sq HS EE AX Q4 Pn BI Bw jI Bt Wx;exact rfl:V11 a b c d e f g=_)
theorem AE9 a f c b d e R:Vc Az c11.body (Af c11 [(.agg [aL a,aL f,aL c,aI b,aI d]),(.o (.sl 3 e))]) [] (Aq c11 R)=V11 a f c b d e R:=by kernel_rfl
def oG (f e c:LD)(g d:Int)(R:AV->Heap->Prop):Prop:=
 ∃(a:Nat)(b:LD),Kr c a b/\R (.ptr 8600202 0) [hB 8600202 [aL f,aL e,.row 8650102 a,aI g,aI d,aI 0],hR 8650102 a 9 1 b]
def AAX:=λa b c d e f=>PLift.up (by delta oG Kr;exact rfl:oG a b c d e f=_)
theorem zW (ba:LD)(no:LD)(pa:LD)(ro:Int)(ge:Int)(R:AV->Heap->Prop):Vc Az c86.body (Af c86 [(.agg [aL ba,aL no,aL pa,aI ro,aI ge])]) [] (N1 c86 R)=oG ba no pa ro ge R:=by kernel_rfl
abbrev CI (b d:LD)(e:Nat)(f c a:Int):=
 hB 8600202 [aL b,aL d,.row 8650102 e,aI f,aI c,aI a]
abbrev JN (a c:LD)(d:Nat)(e b:Int):=
 hB 8600202 [aL a,aL c,.row 8650102 d,aI e,aI b,aI 81]
def YN (d b:LD)(v:Nat)(e a f:Int)(c:LD)(m h:Int)(R:AV->Heap->Prop):Prop:=
 Ae (f != 0) (R IQ [CI d b v e a f,hR 8650102 v 9 1 c]) (v=v/\∃(i:Bool)(k j g:LD)(l:Int),Runs Az 155 [Bt d b c e a,aI m,aB (h==1)] [] (.tup [HY i k j g,aI l]) []/\Ae (l != 0) (R IQ [JN d b v e a,hR 8650102 v 9 1 c]) (Ae (decide (h > 8)) (R IQ [JN d b v e a,hR 8650102 v 9 1 c]) (R (VC i k j g) [CI d b v e a f,hR 8650102 v 9 1 c])))
def rY:=λa b c d e f g h i j=>PLift.up (by delta YN CI VC BI Bt HY IQ JN;exact rfl:YN a b c d e f g h i j=_)
theorem kQ (ba:LD)(no:LD)(v:Nat)(ro:Int)(ge:Int)(bad:Int)(pa:LD)(block:Int)(deep:Int)(R:AV->Heap->Prop):Vc Az c126.body (Af c126 [.ptr 8600202 0,aI block,aI deep]) [(8600202,.box [aL ba,aL no,.row 8650102 v,aI ro,aI ge,aI bad]),(8650102,.row false false v 9 1 pa)] (AQ c126 [(8600202,.box [aL ba,aL no,.row 8650102 v,aI ro,aI ge,aI bad]),(8650102,.row false false v 9 1 pa)] R)=YN ba no v ro ge bad pa block deep R:=by kernel_rfl
def Zq (e b:LD)(v:Nat)(f a d:Int)(c:LD)(j:Int)(R:AV->Heap->Prop):Prop:=
 Ae (d != 0) (R (.tup []) [CI e b v f a d,hR 8650102 v 9 1 c]) (0=0/\∃(g i:LD)(h:Int),Runs Az 92 [.agg [aL e,aL b],aL [D.int .i64 j]] [] (.tup [.agg [aL g,aL i],aI h]) []/\Ae (h != 0) (R (.tup []) [JN e b v f a,hR 8650102 v 9 1 c]) (R (.tup []) [CI g i v f a d,hR 8650102 v 9 1 c]))
def qT:=λa b c d e f g h i=>PLift.up (by delta Zq CI JN;exact rfl:Zq a b c d e f g h i=_)
theorem rN (ba:LD)(no:LD)(v:Nat)(ro:Int)(ge:Int)(bad:Int)(pa:LD)(block:Int)(R:AV->Heap->Prop):Vc Az c127.body (Af c127 [.ptr 8600202 0,aI block]) [(8600202,.box [aL ba,aL no,.row 8650102 v,aI ro,aI ge,aI bad]),(8650102,.row false false v 9 1 pa)] (AQ c127 [(8600202,.box [aL ba,aL no,.row 8650102 v,aI ro,aI ge,aI bad]),(8650102,.row false false v 9 1 pa)] R)=Zq ba no v ro ge bad pa block R:=by kernel_rfl
abbrev mH (m:Int)(g:AV->Heap->Prop)(h i:LD)(a:Nat)(f e:Int)(c:LD)(o:Int)(l:bA):=
 Ae (m != 0) (g (.n (.int .i64 0)) [JN h i a f e,hR 8650102 a 9 1 c]) (∃(k j:LD)(b d:Int),Runs Az 54 [.agg [aL h,aL i]] [] (.tup [.agg [aL k,aL j],aI b,aI d]) []/\Ae (d != 0) (g (.n (.int .i64 0)) [CI h i a f e d,hR 8650102 a 9 1 c]) ((rn a/\rn 1)/\(0:Int)<=b/\Kk b c/\IM a/\Ol b c/\g (.n (.int .i64 b)) [CI k j a f e o,hR 8650102 a 9 1 (List.set c (Int.toNat b) (D.str l))]))
def oT (d b:LD)(v:Nat)(e a f:Int)(c:LD)(g:Bool)(k i o:LD)(R:AV->Heap->Prop):Prop:=
 Ae (f != 0) (R (.n (.int .i64 0)) [CI d b v e a f,hR 8650102 v 9 1 c]) (Ae g (∃(r:bA)(l:Int),Runs Az 125 [Bj g k i o] [] (.tup [aS r,aI l]) []/\Ae (l != 0) (R (.n (.int .i64 0)) [JN d b v e a,hR 8650102 v 9 1 c]) (∃(j:bA)(q:Int),Runs Az 56 [.agg [aI 1,aI a,aS r]] [] (.tup [aS j,aI q]) []/\mH q R d b v e a c f j)) (∃(p:bA)(s:Int),Runs Az 125 [Bj g k i o] [] (.tup [aS p,aI s]) []/\Ae (s != 0) (R (.n (.int .i64 0)) [JN d b v e a,hR 8650102 v 9 1 c]) (∃(m:bA)(h:Int),Runs Az 56 [.agg [aI 2,aI a,aS p]] [] (.tup [aS m,aI h]) []/\mH h R d b v e a c f m)))
def yT:=λa b c d e f g h i j k l=>PLift.up (by delta oT CI Ol Bj IM Kk mH JN;exact rfl:oT a b c d e f g h i j k l=_)
theorem xW (ba:LD)(no:LD)(v:Nat)(ro:Int)(ge:Int)(bad:Int)(pa:LD)(nl:Bool)(nk:LD)(nv:LD)(nc:LD)(R:AV->Heap->Prop):Vc Az c87.body (Af c87 [.ptr 8600202 0,(.agg [aB nl,aL nk,aL nv,aL nc])]) [(8600202,.box [aL ba,aL no,.row 8650102 v,aI ro,aI ge,aI bad]),(8650102,.row false false v 9 1 pa)] (AQ c87 [(8600202,.box [aL ba,aL no,.row 8650102 v,aI ro,aI ge,aI bad]),(8650102,.row false false v 9 1 pa)] R)=oT ba no v ro ge bad pa nl nk nv nc R:=by kernel_rfl
def nH (e d:LD)(v:Nat)(f c a:Int)(b:LD)(R:AV->Heap->Prop):Prop:=
 Ae (a != 0) (R (.tup [Pn,aI a]) [CI e d v f c a,hR 8650102 v 9 1 b]) (v=v/\R (.tup [.agg [aL e,aL d,aL b,aI f,aI c],aI 0]) [CI e d v f c a,(8650102,.row true false v 9 1 b)])
def ACN:=λa b c d e f g h=>PLift.up (by delta nH CI Pn;exact rfl:nH a b c d e f g h=_)
theorem wK (ba:LD)(no:LD)(v:Nat)(ro:Int)(ge:Int)(bad:Int)(pa:LD)(R:AV->Heap->Prop):Vc Az c88.body (Af c88 [.ptr 8600202 0]) [(8600202,.box [aL ba,aL no,.row 8650102 v,aI ro,aI ge,aI bad]),(8650102,.row false false v 9 1 pa)] (AQ c88 [(8600202,.box [aL ba,aL no,.row 8650102 v,aI ro,aI ge,aI bad]),(8650102,.row false false v 9 1 pa)] R)=nH ba no v ro ge bad pa R:=by kernel_rfl
abbrev MX (b a:bA):=
 hB 4700305 [.ptr 8600202 0,aS b,aS a]
abbrev Xo:AV:=
 .agg [aI 0,aI 0,E4,aB false]
def Xp (c e:bA)(a d:LD)(v:Nat)(h b E:Int)(f:LD)(L:Bool)(g k r:LD)(R:AV->Heap->Prop):Prop:=
 Ae (RR g) (∃(B:Int)(M l:LD)(x:Nat)(s Y m:Int)(I:Nat)(t:LD),Runs Az 87 [.ptr 8600202 0,Bj L g k r] [BB a d v h b E,hR 8650102 v 9 1 f] (aI B) [BB M l x s Y m,hR 8650102 I 9 1 t]/\R (.agg [aI B,aI 0,E4,aB false]) [MX c e,CI M l x s Y m,hR 8650102 I 9 1 t]) (∃(X:Bool)(N i P:LD)(D:bA)(q:Bool)(w A V:LD)(J:Int),Runs Az 162 [Bj L g k r] [] (.tup [Bj X N i P,aS D,Bj q w A V,aI J]) []/\Ae (J != 0) (R Xo [MX c e,JN a d v h b,hR 8650102 v 9 1 f]) (∃(O:Int)(K z:LD)(Z:Nat)(p F j:Int)(T:Nat)(C:LD),Runs Az 87 [.ptr 8600202 0,Bj X N i P] [BB a d v h b E,hR 8650102 v 9 1 f] (aI O) [BB K z Z p F j,hR 8650102 T 9 1 C]/\∃(y:Int)(W H:LD)(G:Nat)(Q S o:Int)(U:Nat)(u:LD),MV q w A V K z Z p F j T C y W H G Q S o U u/\R (.agg [aI O,aI y,aS D,aB true]) [MX c e,CI W H G Q S o,hR 8650102 U 9 1 u]))
def jW:=λa b c d e f g h i j k l m n=>PLift.up (by delta Xp RR CI MX MV Bj Xo E4 EE BB JN;exact rfl:Xp a b c d e f g h i j k l m n=_)
theorem oJ (key:bA)(val:bA)(ba:LD)(no:LD)(v:Nat)(ro:Int)(ge:Int)(bad:Int)(pa:LD)(nl:Bool)(nk:LD)(nv:LD)(nc:LD)(R:AV->Heap->Prop):Vc Az c129.body (Af c129 [.ptr 4700305 0,(.agg [aB nl,aL nk,aL nv,aL nc])]) [(4700305,.box [.ptr 8600202 0,aS key,aS val]),(8600202,.box [aL ba,aL no,.row 8650102 v,aI ro,aI ge,aI bad]),(8650102,.row false false v 9 1 pa)] (AQ c129 [(4700305,.box [.ptr 8600202 0,aS key,aS val]),(8600202,.box [aL ba,aL no,.row 8650102 v,aI ro,aI ge,aI bad]),(8650102,.row false false v 9 1 pa)] R)=Xp key val ba no v ro ge bad pa nl nk nv nc R:=by kernel_rfl
abbrev UK (h:Int)(k n:LD)(q:Nat)(j f b:Int)(l:Nat)(o e a:LD)(p:Nat)(i m c:Int)(g:Nat)(d:LD):=
 Runs Az 127 [.ptr 8600202 0,aI h] [BB k n q j f b,hR 8650102 l 9 1 o] (.tup []) [BB e a p i m c,hR 8650102 g 9 1 d]
abbrev lE (C:Bool)(t v D:LD)(A z:bA)(w s:LD)(y:Nat)(q p B:Int)(r:Nat)(u:LD)(x:AV->Heap->Prop):=
 ∃(j h:Int)(b:bA)(f:Bool)(k g:bA)(l a:LD)(c:Nat)(o d e:Int)(m:Nat)(i:LD),Runs Az 129 [.ptr 4700305 0,Bj C t v D] [Kq A z,BB w s y q p B,hR 8650102 r 9 1 u] (.agg [aI j,aI h,aS b,aB f]) [Kq k g,BB l a c o d e,hR 8650102 m 9 1 i]/\x (.agg [aI j,aI h,aS b,aB f]) [MX k g,CI l a c o d e,hR 8650102 m 9 1 i]
def kH (c e:bA)(ba no:LD)(v:Nat)(ro ge d7:Int)(pa:LD)(d3 d6:Int)(R:AV->Heap->Prop):Prop:=
 ∃(d:Bool)(l h i Q V:LD)(L:Nat)(T S A:Int)(M:Nat)(P:LD),Runs Az 126 [.ptr 8600202 0,aI d3,aI d6] [BB ba no v ro ge d7,hR 8650102 v 9 1 pa] (HY d l h i) [BB Q V L T S A,hR 8650102 M 9 1 P]/\Ae (A != 0) (R Xo [MX c e,CI Q V L T S A,hR 8650102 M 9 1 P]) (∃(y C:LD)(r:Nat)(B s J:Int)(F:Nat)(I:LD),UK d3 Q V L T S A M P y C r B s J F I/\Ae d (∃(f:Int)(a1:Bool),Runs Az 128 [Bj d l h i,aS c] [] (.tup [aI f,aB a1]) []/\Ae a1 (∃(m:Nat)(q:LD),Kr h m q/\(rn m/\rn 1)/\(0:Int)<=f/\Kk f q/\IM m/\Ol f q/\m=m/\∃(c4 W:Int)(b4:bA)(c1:Bool)(c0 d5:bA)(c6 c5:LD)(b1:Nat)(d1 Y d4:Int)(Z:Nat)(d0:LD),Runs Az 129 [.ptr 4700305 0,.agg [aB d,aL l,aL (List.set q (Int.toNat f) (D.str e)),aL i]] [Kq c e,BB y C r B s J,hR 8650102 F 9 1 I] (.agg [aI c4,aI W,aS b4,aB c1]) [Kq c0 d5,BB c6 c5 b1 d1 Y d4,hR 8650102 Z 9 1 d0]/\R (.agg [aI c4,aI W,aS b4,aB c1]) [MX c0 d5,CI c6 c5 b1 d1 Y d4,hR 8650102 Z 9 1 d0]) (∃(g:Nat)(a3:LD),Kr l g a3/\∃a6:LD,Runs Az 130 [.row 8951102 g,aI f,.row 8901108 0] [hR 8901108 0 9 1 [D.str c],hR 8951102 g 9 1 a3] (.row 8951102 (g+1)) [hR 8901108 0 9 1 [D.str c],hR 8951102 (g+1) 9 1 a6]/\∃(k:Nat)(c3:LD),Kr h k c3/\∃b6:LD,Runs Az 130 [.row 8951202 k,aI f,.row 8901208 0] [hR 8901208 0 9 1 [D.str e],hR 8951202 k 9 1 c3] (.row 8951202 (k+1)) [hR 8901208 0 9 1 [D.str e],hR 8951202 (k+1) 9 1 b6]/\g+1=g+1/\k+1=k+1/\lE d a6 b6 i c e y C r B s J F I R)) (∃b:Int,Runs Az 131 [Bj d l h i,aS c] [] (aI b) []/\rn 1/\(0:Int)<=b/\∃b5:D,AX i b b5/\∃b0:Int,((D.cells b5)[0]?=some (D.int .i64 b0))/\∃(N U:Int)(O:bA)(a9:Bool)(t u:bA)(x E:LD)(G:Nat)(H w p:Int)(K:Nat)(z:LD),Runs Az 89 [.ptr 4700305 0,aI b0,FO d6] [Kq c e,BB y C r B s J,hR 8650102 F 9 1 I] (.agg [aI N,aI U,aS O,aB a9]) [Kq t u,BB x E G H w p,hR 8650102 K 9 1 z]/\Ae (p != 0) (R Xo [MX t u,CI x E G H w p,hR 8650102 K 9 1 z]) (∃(a:Nat)(o:LD),Runs Az 132 [aL i] [] (.row 13200001 a) [hR 13200001 a 3 1 o]/\(rn a/\rn 1)/\(0:Int)<=b/\Kk b o/\IM a/\Ol b o/\Ae a9 (∃(j:Nat)(a2:LD),Kr l j a2/\∃a5:LD,Runs Az 130 [.row 8952102 j,aI b,.row 8902106 0] [hR 8902106 0 9 1 [D.str O],hR 8952102 j 9 1 a2] (.row 8952102 (j+1)) [hR 8902106 0 9 1 [D.str O],hR 8952102 (j+1) 9 1 a5]/\∃b7:LD,Runs Az 133 [.row 8951802 a,FO b,.row 8902206 0] [hR 8902206 0 3 1 [D.int .i64 U],hR 8951802 a 3 1 (List.set o (Int.toNat b) (D.int .i64 N))] (.row 8951802 (a+1)) [hR 8902206 0 3 1 [D.int .i64 U],hR 8951802 (a+1) 3 1 b7]/\j+1=j+1/\a+1=a+1/\lE d a5 h b7 t u x E G H w p K z R) (a=a/\∃(b3 a4:Int)(b2:bA)(d2:Bool)(c8 c9:bA)(c2 a8:LD)(b9:Nat)(a0 a7 c7:Int)(b8:Nat)(X:LD),Runs Az 129 [.ptr 4700305 0,.agg [aB d,aL l,aL h,aL (List.set o (Int.toNat b) (D.int .i64 N))]] [Kq t u,BB x E G H w p,hR 8650102 K 9 1 z] (.agg [aI b3,aI a4,aS b2,aB d2]) [Kq c8 c9,BB c2 a8 b9 a0 a7 c7,hR 8650102 b8 9 1 X]/\R (.agg [aI b3,aI a4,aS b2,aB d2]) [MX c8 c9,CI c2 a8 b9 a0 a7 c7,hR 8650102 b8 9 1 X]))))
def yF:=λa b c d e f g h i j k l=>PLift.up (by delta kH Kr CI MX Ol Bj lE FO Xo E4 EE AX IM Kk UK HY BB Kq;exact rfl:kH a b c d e f g h i j k l=_)
theorem AA6 (key:bA)(val:bA)(ba:LD)(no:LD)(v:Nat)(ro:Int)(ge:Int)(bad:Int)(pa:LD)(block:Int)(deep:Int)(R:AV->Heap->Prop):Vc Az c89.body (Af c89 [.ptr 4700305 0,aI block,aI deep]) [(4700305,.box [.ptr 8600202 0,aS key,aS val]),(8600202,.box [aL ba,aL no,.row 8650102 v,aI ro,aI ge,aI bad]),(8650102,.row false false v 9 1 pa)] (AQ c89 [(4700305,.box [.ptr 8600202 0,aS key,aS val]),(8600202,.box [aL ba,aL no,.row 8650102 v,aI ro,aI ge,aI bad]),(8650102,.row false false v 9 1 pa)] R)=kH key val ba no v ro ge bad pa block deep R:=by kernel_rfl
abbrev IY (a:bA):=
 hB 4900504 [.ptr 8600202 0,aS a]
def Yz (c:bA)(f b:LD)(v:Nat)(g a e:Int)(d:LD)(R:AV->Heap->Prop):Prop:=
 Ae (e==0) (R (.tup []) [IY c,JN f b v g a,hR 8650102 v 9 1 d]) (R (.tup []) [IY c,CI f b v g a e,hR 8650102 v 9 1 d])
def kM:=λa b c d e f g h i=>PLift.up (by delta Yz IY CI JN;exact rfl:Yz a b c d e f g h i=_)
theorem qJ (key:bA)(ba:LD)(no:LD)(v:Nat)(ro:Int)(ge:Int)(bad:Int)(pa:LD)(R:AV->Heap->Prop):Vc Az c168.body (Af c168 [.ptr 4900504 0]) [(4900504,.box [.ptr 8600202 0,aS key]),(8600202,.box [aL ba,aL no,.row 8650102 v,aI ro,aI ge,aI bad]),(8650102,.row false false v 9 1 pa)] (AQ c168 [(4900504,.box [.ptr 8600202 0,aS key]),(8600202,.box [aL ba,aL no,.row 8650102 v,aI ro,aI ge,aI bad]),(8650102,.row false false v 9 1 pa)] R)=Yz key ba no v ro ge bad pa R:=by kernel_rfl
def bE (d:bA)(ba no:LD)(v:Nat)(ro ge c6:Int)(pa:LD)(b9 S:Int)(R:AV->Heap->Prop):Prop:=
 ∃(c:Bool)(j e f K Q:LD)(F:Nat)(N L t:Int)(G:Nat)(I:LD),Runs Az 126 [.ptr 8600202 0,aI b9,aI S] [BB ba no v ro ge c6,hR 8650102 v 9 1 pa] (HY c j e f) [BB K Q F N L t,hR 8650102 G 9 1 I]/\Ae (t != 0) (R FF [IY d,CI K Q F N L t,hR 8650102 G 9 1 I]) (∃(r w:LD)(l:Nat)(u p O:Int)(y:Nat)(A:LD),UK b9 K Q F N L t G I r w l u p O y A/\Ae c (∃(a2:Int)(Y:Bool),Runs Az 128 [Bj c j e f,aS d] [] (.tup [aI a2,aB Y]) []/\Ae (Bool.not Y) (R FF [IY d,hB 8600202 [aL r,aL w,.row 8650102 l,aI u,aI p,aI 80],hR 8650102 y 9 1 A]) (∃(a9:Bool)(X b5 T:LD),Runs Az 134 [Bj c j e f,aI a2] [] (Bj a9 X b5 T) []/\R (L5 a9 X b5 T) [IY d,CI r w l u p O,hR 8650102 y 9 1 A])) (∃a:Int,Runs Az 131 [Bj c j e f,aS d] [] (aI a) []/\rn 1/\(0:Int)<=a/\∃b3:D,AX f a b3/\∃b1:Int,((D.cells b3)[0]?=some (D.int .i64 b1))/\∃(P:Bool)(x M H:LD)(C:bA)(k E:LD)(m:Nat)(B s g:Int)(q:Nat)(z:LD),Runs Az 90 [.ptr 4900504 0,aI b1,FO S] [MC d,BB r w l u p O,hR 8650102 y 9 1 A] (Bj P x M H) [MC C,BB k E m B s g,hR 8650102 q 9 1 z]/\Ae (g != 0) (R FF [IY C,CI k E m B s g,hR 8650102 q 9 1 z]) (∃(i:Nat)(J:LD),Kr j i J/\∃(b:Nat)(h:LD),Runs Az 132 [aL f] [] (.row 13200001 b) [hR 13200001 b 3 1 h]/\Ae (decide ((x.length:Int)>=4)) (∃(V:Int)(a1 c0:LD)(b6:Nat)(c1 U W:Int)(c4:Nat)(b0:LD),MV P x M H k E m B s g q z V a1 c0 b6 c1 U W c4 b0/\(rn b/\rn 1)/\(0:Int)<=a/\Kk a h/\IM b/\Ol a h/\i=i/\b=b/\R (.agg [aB c,aL J,aL e,aL (List.set h (Int.toNat a) (D.int .i64 V))]) [IY C,CI a1 c0 b6 c1 U W,hR 8650102 c4 9 1 b0]) (∃(b2:Bool)(c3 b8 b7:LD)(a8:Bool)(a5:bA)(a6 c2:LD)(a7:Nat)(a3 Z a0:Int)(a4:Nat)(b4:LD)(c7:Nat)(c8:LD)(c5:Nat)(c9:LD),Runs Az 135 [.ptr 4900504 0,.agg [aB c,.row 9051502 i,aL e,.row 9051505 b],aI a,Bj P x M H,aI S] [MC C,BB k E m B s g,hR 8650102 q 9 1 z,hR 9051502 i 9 1 J,hR 9051505 b 3 1 h] (Bj b2 c3 b8 b7) [MC a5,BB a6 c2 a7 a3 Z a0,hR 8650102 a4 9 1 b4,(9051502,.row a8 false c7 9 1 c8),(9051505,.row a8 false c5 3 1 c9)]/\R (L5 b2 c3 b8 b7) [IY a5,CI a6 c2 a7 a3 Z a0,hR 8650102 a4 9 1 b4]))))
def NM:=λa b c d e f g h i j k=>PLift.up (by delta bE Kr CI Ol MV Bj FO AX L5 UK IM Kk HY MC BB IY FF;exact rfl:bE a b c d e f g h i j k=_)
theorem iS (key:bA)(ba:LD)(no:LD)(v:Nat)(ro:Int)(ge:Int)(bad:Int)(pa:LD)(block:Int)(deep:Int)(R:AV->Heap->Prop):Vc Az c90.body (Af c90 [.ptr 4900504 0,aI block,aI deep]) [(4900504,.box [.ptr 8600202 0,aS key]),(8600202,.box [aL ba,aL no,.row 8650102 v,aI ro,aI ge,aI bad]),(8650102,.row false false v 9 1 pa)] (AQ c90 [(4900504,.box [.ptr 8600202 0,aS key]),(8600202,.box [aL ba,aL no,.row 8650102 v,aI ro,aI ge,aI bad]),(8650102,.row false false v 9 1 pa)] R)=bE key ba no v ro ge bad pa block deep R:=by kernel_rfl
abbrev Xt (v:bA)(n p:LD)(w:Nat)(t s q:Int)(m:Nat)(r:LD)(k:AV->Heap->Prop)(j:Nat)(u:LD)(l:Nat)(o:LD):=
 ∃(a:bA)(b d:LD)(h:Nat)(e g f:Int)(c:Nat)(i:LD),Runs Az 168 [.ptr 4900504 0] [MC v,BB n p w t s q,hR 8650102 m 9 1 r] (.tup []) [MC a,BB b d h e g f,hR 8650102 c 9 1 i]/\k FF [IY a,CI b d h e g f,hR 8650102 c 9 1 i,hR 9051502 j 9 1 u,hR 9051505 l 3 1 o]
abbrev WS (b:LD)(a:Int)(c:D):=
 (b[Int.toNat (Cs true (wI (a-1)) 0)]?=some c)
abbrev sD (a:Int):=
 aI (wI (Cs true (wI (a-1)) 0+1))
abbrev rI (c:Nat)(a:Int)(d:LD)(p3:Bool)(p4 p5 U:LD)(Q:Bool)(Z M L a2 O:LD)(S:Nat)(Y N a0:Int)(a1:Nat)(X:LD)(b:Nat)(e:LD)(P:AV->Heap->Prop)(T:Bool)(V:LD)(W:bA):=
 (rn c/\rn 1)/\(0:Int)<=Cs true (wI (a-1)) 0/\((Cs true (wI (a-1)) 0):Int)<(d.length:Int)/\(rn c/\rn 1)/\∃z:D,WS d a z/\∃B:bA,B7 z B/\∃(H:Bool)(I v m:LD)(h:bA)(y:Bool)(p t u:LD),Runs Az 171 [Bj p3 p4 p5 U,aS B,Bj Q Z M L] [] (.tup [Bj H I v m,aS h,Bj y p t u]) []/\∃(f:Int)(J F:LD)(E:Nat)(i w x:Int)(l:Nat)(q:LD),MV H I v m a2 O S Y N a0 a1 X f J F E i w x l q/\(rn b/\rn 1)/\(0:Int)<=Cs true (wI (a-1)) 0/\((Cs true (wI (a-1)) 0):Int)<(e.length:Int)/\IM b/\((Int.toNat (Cs true (wI (a-1)) 0)):Nat)<List.length e/\∃(g:Int)(r k:LD)(j:Nat)(s A G:Int)(K:Nat)(C:LD),MV y p t u J F E i w x l q g r k j s A G K C/\(rn b/\rn 1)/\(0:Int)<=wI (Cs true (wI (a-1)) 0+1)/\((wI (Cs true (wI (a-1)) 0+1)):Int)<((List.set e (Int.toNat (Cs true (wI (a-1)) 0)) (D.int .i64 f)).length:Int)/\IM b/\((Int.toNat (wI (Cs true (wI (a-1)) 0+1))):Nat)<List.length (List.set e (Int.toNat (Cs true (wI (a-1)) 0)) (D.int .i64 f))/\(rn c/\rn 1)/\(0:Int)<=Cs true (wI (a-1)) 0/\((Cs true (wI (a-1)) 0):Int)<(d.length:Int)/\IM c/\((Int.toNat (Cs true (wI (a-1)) 0)):Nat)<List.length d/\c=c/\b=b/\P (.agg [aB T,aL (List.set d (Int.toNat (Cs true (wI (a-1)) 0)) (D.str h)),aL V,aL (List.set (List.set e (Int.toNat (Cs true (wI (a-1)) 0)) (D.int .i64 f)) (Int.toNat (wI (Cs true (wI (a-1)) 0+1))) (D.int .i64 g))]) [IY W,CI r k j s A G,hR 8650102 K 9 1 C,(9051502,.row true false c 9 1 (List.set d (Int.toNat (Cs true (wI (a-1)) 0)) (D.str h))),(9051505,.row true false b 3 1 (List.set (List.set e (Int.toNat (Cs true (wI (a-1)) 0)) (D.int .i64 f)) (Int.toNat (wI (Cs true (wI (a-1)) 0+1))) (D.int .i64 g)))]
abbrev mV (c:Nat)(a:Int)(d:LD)(B:Bool)(x w n:LD)(k:Bool)(s g f z i:LD)(l:Nat)(r h u:Int)(y:Nat)(q:LD)(b:Nat)(e:LD)(j:AV->Heap->Prop)(m:Bool)(o:LD)(p:bA):=
 (rn c/\rn 1)/\(0:Int)<=Cs true (wI (a-1)) 0/\((Cs true (wI (a-1)) 0):Int)<(d.length:Int)/\(rn c/\rn 1)/\∃J:D,WS d a J/\∃F:bA,B7 J F/\∃(N:Bool)(t E K:LD)(O:Int),Runs Az 169 [Bj B x w n,aS F,Bj k s g f] [] (.tup [Bj N t E K,aI O]) []/\Ae (O==0) (Ae (RR t) (∃(L:Int)(P C:LD)(G:Nat)(S H I:Int)(Q:Nat)(M:LD),MV N t E K z i l r h u y q L P C G S H I Q M/\(rn b/\rn 1)/\(0:Int)<=Cs true (wI (a-1)) 0/\((Cs true (wI (a-1)) 0):Int)<(e.length:Int)/\IM b/\((Int.toNat (Cs true (wI (a-1)) 0)):Nat)<List.length e/\∃v:LD,Runs Az 167 [.row 9051502 c,aI (Cs true (wI (a-1)) 0),sD a] [hR 9051502 c 9 1 d] (.row 9051502 (c+1)) [hR 9051502 (c+1) 9 1 v]/\∃A:LD,Runs Az 170 [.row 9051505 b,sD a,aI (wI (Cs true (wI (a-1)) 0+2))] [hR 9051505 b 3 1 (List.set e (Int.toNat (Cs true (wI (a-1)) 0)) (D.int .i64 L))] (.row 9051505 (b+1)) [hR 9051505 (b+1) 3 1 A]/\c+1=c+1/\b+1=b+1/\j (L5 m v o A) [IY p,CI P C G S H I,hR 8650102 Q 9 1 M,(9051502,.row true false (c+1) 9 1 v),(9051505,.row true false (b+1) 3 1 A)]) (rI c a d B x w n k s g f z i l r h u y q b e j m o p)) (rI c a d B x w n k s g f z i l r h u y q b e j m o p)
abbrev nA (I:D)(B C:LD)(J:Nat)(H G E:Int)(A:Nat)(F:LD)(a:Int)(j:Nat)(x:LD)(l:Bool)(n t k:LD)(v:Bool)(w s r:LD)(z:Nat)(m:LD)(o:AV->Heap->Prop)(p:Bool)(q:LD)(u:bA):=
 ∃y:Int,((D.cells I)[0]?=some (D.int .i64 y))/\∃(b i:LD)(c:Nat)(g h d:Int)(e:Nat)(f:LD),UK y B C J H G E A F b i c g h d e f/\Ae (Cs true (wI (a-1)) 0==a) (mV j a x l n t k v w s r b i c g h d e f z m o p q u) (mV j a x v w s r l n t k b i c g h d e f z m o p q u)
def Y8 (d:bA)(B O:LD)(v:Nat)(Z J N:Int)(Q:LD)(a b:Nat)(S:Bool)(e A c:LD)(i:Int)(q:Bool)(I Y P:LD)(C:Int)(R:AV->Heap->Prop):Prop:=
 Ae (Cs true (wI (i-1)) 0==i) ((rn b/\rn 1)/\(0:Int)<=wI (i+1)/\((wI (i+1)):Int)<(c.length:Int)/\(rn b/\rn 1)/\∃K:D,(c[Int.toNat (wI (i+1))]?=some K)/\∃V:Int,((D.cells K)[0]?=some (D.int .i64 V))/\∃(z:Bool)(H E X j o:LD)(k:Nat)(u r f:Int)(s:Nat)(m:LD),Runs Az 126 [.ptr 8600202 0,aI V,FO C] [BB B O v Z J N,hR 8650102 v 9 1 Q] (HY z H E X) [BB j o k u r f,hR 8650102 s 9 1 m]/\Ae (f != 0) (Xt d j o k u r f s m R a e b c) (Ae (Bool.not (z==q)) (Xt d j o k u r f s m R a e b c) ((rn b/\rn 1)/\(0:Int)<=wI (i+1)/\((wI (i+1)):Int)<(c.length:Int)/\(rn b/\rn 1)/\∃W:D,(c[Int.toNat (wI (i+1))]?=some W)/\nA W j o k u r f s m i a e q I Y P z H E X b c R S A d))) ((rn b/\rn 1)/\(0:Int)<=Cs true (wI (i-1)) 0/\((Cs true (wI (i-1)) 0):Int)<(c.length:Int)/\(rn b/\rn 1)/\∃M:D,WS c i M/\∃F:Int,((D.cells M)[0]?=some (D.int .i64 F))/\∃(y:Bool)(T U G w h:LD)(t:Nat)(p l g:Int)(x:Nat)(n:LD),Runs Az 126 [.ptr 8600202 0,aI F,FO C] [BB B O v Z J N,hR 8650102 v 9 1 Q] (HY y T U G) [BB w h t p l g,hR 8650102 x 9 1 n]/\Ae (g != 0) (Xt d w h t p l g x n R a e b c) (Ae (Bool.not (y==q)) (Xt d w h t p l g x n R a e b c) ((rn b/\rn 1)/\(0:Int)<=Cs true (wI (i-1)) 0/\((Cs true (wI (i-1)) 0):Int)<(c.length:Int)/\(rn b/\rn 1)/\∃L:D,WS c i L/\nA L w h t p l g x n i a e q I Y P y T U G b c R S A d)))
def oQ:=λa b c d e f g h i j k l m n o p q r s t u=>PLift.up (by delta Y8 CI UK sD MC FF MV mV Xt IM HY IY RR nA Bj L5 B7 FO WS rI BB;exact rfl:Y8 a b c d e f g h i j k l m n o p q r s t u=_)
theorem lJ (key:bA)(ba:LD)(no:LD)(v:Nat)(ro:Int)(ge:Int)(bad:Int)(pa:LD)(a:Nat)(b:Nat)(nl:Bool)(nk:LD)(nv:LD)(nc:LD)(i:Int)(kl:Bool)(kk:LD)(kv:LD)(kc:LD)(deep:Int)(R:AV->Heap->Prop):Vc Az c135.body (Af c135 [.ptr 4900504 0,(.agg [aB nl,.row 9051502 a,aL nv,.row 9051505 b]),aI i,(.agg [aB kl,aL kk,aL kv,aL kc]),aI deep]) [(4900504,.box [.ptr 8600202 0,aS key]),(8600202,.box [aL ba,aL no,.row 8650102 v,aI ro,aI ge,aI bad]),(8650102,.row false false v 9 1 pa),(9051502,.row false false a 9 1 nk),(9051505,.row false false b 3 1 nc)] (AQ c135 [(4900504,.box [.ptr 8600202 0,aS key]),(8600202,.box [aL ba,aL no,.row 8650102 v,aI ro,aI ge,aI bad]),(8650102,.row false false v 9 1 pa),(9051502,.row false false a 9 1 nk),(9051505,.row false false b 3 1 nc)] R)=Y8 key ba no v ro ge bad pa a b nl nk nv nc i kl kk kv kc deep R:=by kernel_rfl
def iD (s d:bA)(R:AV->Heap->Prop):Prop:=
 ∃(a:bA)(c:Int),Runs Az 105 [aS s] [] (.tup [aS a,aI c]) []/\0=0/\∃b:bA,Runs Az 108 [aL [D.str d,D.str a]] [] (aS b) []/\R (.tup []) [hB 12500307 [aS b]]
theorem rR (s:bA)(out:bA)(R:AV->Heap->Prop):Vc Az c159.body (Af c159 [aS s,.ptr 12500307 0]) [(12500307,.box [aS out])] (AQ c159 [(12500307,.box [aS out])] R)=iD s out R:=by kernel_rfl
abbrev Sr (a:Int):=
 hB 10100102 [aI a]
def Yn (a:LD)(i:Int)(R:AV->Heap->Prop):Prop:=
 ∃b:Bool,Runs Az 142 [aL a,aI i] [] (aB b) []/\R (.n (.bool b)) [Sr i]
def tC:=λa b c=>PLift.up (by delta Yn Sr;exact rfl:Yn a b c=_)
theorem nM (a:LD)(i:Int)(R:AV->Heap->Prop):Vc Az c141.body (Af c141 [aL a,.ptr 10100102 0]) [(10100102,.box [aI i])] (AQ c141 [(10100102,.box [aI i])] R)=Yn a i R:=by kernel_rfl
def ZM (l:LD)(i:Int)(R:AV->Heap->Prop):Prop:=
 ∃a:Int,Runs Az 174 [aL l,.fn 141 [.ptr 10100102 0]] [hB 10100102 [aI i]] (aI a) [hB 10100102 [aI i]]/\R (Ni a) [Sr i]
def qE:=λa b c=>PLift.up (by delta ZM Sr Ni;exact rfl:ZM a b c=_)
theorem nE (l:LD)(i:Int)(R:AV->Heap->Prop):Vc Az c140.body (Af c140 [aL l,.fn 141 [.ptr 10100102 0]]) [(10100102,.box [aI i])] (AQ c140 [(10100102,.box [aI i])] R)=ZM l i R:=by kernel_rfl
def Y9 (l:LD)(i:Int)(R:AV->Heap->Prop):Prop:=
 ∃(b:Int->Prop)(d:Int->Nat),(rh [hB 10100102 [aI i]]/\b 0)/\∀a:Int,b a->∀g:Nat->AV,Ae (Bw a l) (rn 1/\(0:Int)<=a/\∃f:D,AX l a f/\∃e:LD,Me f e/\∃c:Bool,Runs Az 141 [aL e,.ptr 10100102 0] [hB 10100102 [aI i]] (aB c) [hB 10100102 [aI i]]/\Ae c (R (.n (.int .i64 a)) [Sr i]) (rq (aL l)/\rq (.fn 141 [.ptr 10100102 0])/\rq (aI (l.length:Int))/\rh [hB 10100102 [aI i]]/\b (wI (a+1))/\((d (wI (a+1))):Nat)<d a)) (R (.n (.int .i64 (-1))) [Sr i])
def kP:=λa b c=>PLift.up (by delta Y9 AX Bw Sr Me;exact rfl:Y9 a b c=_)
theorem nB (l:LD)(i:Int)(R:AV->Heap->Prop):Vc Az c174.body (Af c174 [aL l,.fn 141 [.ptr 10100102 0]]) [(10100102,.box [aI i])] (AQ c174 [(10100102,.box [aI i])] R)=Y9 l i R:=by kernel_rfl
end Go.Proofs.YtjmpnbbeplgchabGreatDoor.M
