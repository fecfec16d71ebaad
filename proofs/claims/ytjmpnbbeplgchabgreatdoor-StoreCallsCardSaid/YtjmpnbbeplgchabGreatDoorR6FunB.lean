import Derived.Test.YtjmpnbbeplgchabGreatDoorR6Fun
namespace Go.Proofs.YtjmpnbbeplgchabGreatDoor.M
set_option linter.unusedVariables false
set_option linter.unusedSimpArgs false
open Go Go.Mir
abbrev wI (x:Int):Int:=IntKind.wrap .i64 x
abbrev EE:=
 ByteArray.mk (List.toArray [])
abbrev E4:AV:=
 aS EE
abbrev KD (a:AV->Prop):=
 a (.tup [E4,aI 1])
abbrev uR (a:Int):=
 ((Int.toNat a*1):Nat)<=140737488355328
abbrev MD (b:(Nat×LD))(a:Nat):=
 ((Prod.fst b):Nat)=a
abbrev Qf (b:(Nat×LD))(a:Nat):=
 MD b a/\rn 1
abbrev Ww (b:Nat)(a:(Nat×LD)):=
 (((b:Nat)=Prod.fst a/\rn 0)/\rn 1)/\rn 1
abbrev uJ (a:(Nat×LD)):=
 rn 1\/@Eq LD (Prod.snd a) []
abbrev uU (a:(Nat×LD)):=
 ((List.all (Prod.snd a) Go.Mir.D.isU8):Bool)=true
abbrev tW (a:(Nat×LD)):=
 ByteArray.mk (List.toArray (List.map Go.Mir.byteOf (Prod.snd a)))
def tJ (i d:Int)(R:AV->Prop):Prop:=
 Ae (decide (d<1)) (KD R) (Ae (decide (d > 6)) (KD R) (Ae (decide (i<0)) (KD R) ((0:Int)<=wI (8*d)/\Ae (Int.fdiv i (2 ^ (Min.min (Int.toNat (wI (8*d))) (Go.IntKind.bits .i64))) != 0) (KD R) ((0:Int)<=d/\uR d/\rn 0/\∃(h:Int->Int->Nat->Int->Int->Nat×LD->Prop)(j:Int->Int->Nat->Int->Int->Nat×LD->Nat),(rh [(10400301,.row false true 0 5 1 (List.replicate (Int.toNat d) (D.int .u8 0)))]/\h i d 0 ((List.replicate (Int.toNat d) (D.int .u8 0)).length:Int) 0 (0,List.replicate (Int.toNat d) (D.int .u8 0)))/\∀(e c:Int)(f:Nat)(g b:Int)(a:Nat×LD),h e c f g b a->∀k:Nat->AV,Ae (decide (b<g)) ((0:Int)<=wI (8*b)/\Qf a f/\(0:Int)<=wI (wI (c-1)-b)/\((wI (wI (c-1)-b)):Int)<((Prod.snd a).length:Int)/\Ww f a/\((Int.toNat (wI (wI (c-1)-b))):Nat)<List.length (Prod.snd a)/\rh [(10400301,.row false true (Prod.fst a) 5 1 (List.set (Prod.snd a) (Int.toNat (wI (wI (c-1)-b))) (D.int .u8 (IntKind.wrap .u8 (Int.fdiv e (2 ^ (Min.min (Int.toNat (wI (8*b))) (Go.IntKind.bits .i64))))))))]/\h e c f g (wI (b+1)) (Prod.fst a,List.set (Prod.snd a) (Int.toNat (wI (wI (c-1)-b))) (D.int .u8 (IntKind.wrap .u8 (Int.fdiv e (2 ^ (Min.min (Int.toNat (wI (8*b))) (Go.IntKind.bits .i64)))))))/\((j e c f g (wI (b+1)) (Prod.fst a,List.set (Prod.snd a) (Int.toNat (wI (wI (c-1)-b))) (D.int .u8 (IntKind.wrap .u8 (Int.fdiv e (2 ^ (Min.min (Int.toNat (wI (8*b))) (Go.IntKind.bits .i64)))))))):Nat)<j e c f g b a) (MD a f/\uJ a/\uU a/\R (.tup [aS (tW a),aI 0]))))))
def iO:=λa b c=>PLift.up (by delta tJ MD uR Ww EE E4 KD uJ uU Qf tW;exact rfl:tJ a b c=_)
theorem iY a b R:Vc Fs c104.body (Af c104 [aI a,aI b]) [] (Aq c104 R)=tJ a b R:=by kernel_rfl
def jQ (b:LD)(R:AV->Prop):Prop:=
 ∃a:bA,Runs Fs 145 [aL b,aS EE] [] (aS a) []/\R (.n (.str a))
def xV:=λa b=>PLift.up (by delta jQ EE;exact rfl:jQ a b=_)
theorem wB a R:Vc Fs c108.body (Af c108 [aL a]) [] (Aq c108 R)=jQ a R:=by kernel_rfl
abbrev Wy (a:AV->Prop):=
 a (.tup [E4,aI 2])
abbrev tY (b a c:bA):=
 Runs Fs 108 [aL [D.str b,D.str a]] [] (aS c) []
def qC (a:bA)(R:AV->Prop):Prop:=
 Ae (decide ((((ByteArray.size a):Nat):Int) > 65535)) (Wy R) (∃(b:bA)(c:Int),Runs Fs 104 [aI (((ByteArray.size a):Nat):Int),aI 2] [] (.tup [aS b,aI c]) []/\0=0/\∃d:bA,tY b a d/\R (.tup [aS d,aI c]))
def ABA:=λa b=>PLift.up (by delta qC Wy E4 tY EE;exact rfl:qC a b=_)
theorem AAU a R:Vc Fs c105.body (Af c105 [aS a]) [] (Aq c105 R)=qC a R:=by kernel_rfl
abbrev qn_:=
 aS (ByteArray.mk (List.toArray [0]))
def sN (b:bA)(R:AV->Prop):Prop:=
 ∃a:bA,Runs Fs 143 [aS b,qn_] [] (aS a) []/\R (.n (.str a))
def AB5:=λa b=>PLift.up (by delta sN qn_;exact rfl:sN a b=_)
theorem vJ a R:Vc Fs c106.body (Af c106 [aS a]) [] (Aq c106 R)=sN a R:=by kernel_rfl
abbrev Ta (a:bA):=
 Array.toList (ByteArray.data a)
abbrev qp_ (a:Int)(b:bA)(c:AV->Prop):=
 (0:Int)<=a/\(a:Int)<=(((ByteArray.size b):Nat):Int)/\c (.n (.str (ByteArray.extract b 0 (Int.toNat a))))
def sH (d:bA)(R:AV->Prop):Prop:=
 ∃(c:bA->Int->Prop)(e:bA->Int->Nat),(rh []/\c d (((ByteArray.size d):Nat):Int))/\∀(b:bA)(a:Int),c b a->∀g:Nat->AV,Ae (decide (a > 0)) ((0:Int)<=wI (a-1)/\∃f:UInt8,((GetElem?.getElem? (Ta b) (Int.toNat (wI (a-1)))):Option UInt8)=some f/\Ae ((((UInt8.toNat f):Nat):Int)==0) (rh []/\c b (wI (a-1))/\((e b (wI (a-1))):Nat)<e b a) (qp_ a b R)) (qp_ a b R)
def ABH:=λa b=>PLift.up (by delta sH Ta qp_;exact rfl:sH a b=_)
theorem AB9 a R:Vc Fs c188.body (Af c188 [aS a]) [] (Aq c188 R)=sH a R:=by kernel_rfl
abbrev eT (b:Int)(a:bA):=
 b-(((ByteArray.size a):Nat):Int)
def qQ (b:bA)(a:Int)(R:AV->Prop):Prop:=
 Ae (decide (a<0)) (KD R) (Ae (decide (a > 4096)) (KD R) (Ae (decide ((((ByteArray.size b):Nat):Int) > a)) (Wy R) (∃c:bA,Runs Fs 191 [qn_,aI (wI (eT a b))] [] (aS c) []/\0=0/\∃d:bA,tY b c d/\R (.tup [aS d,aI 0]))))
def ABF:=λa b c=>PLift.up (by delta qQ Wy EE E4 KD eT qn_ tY;exact rfl:qQ a b c=_)
theorem ADA a b R:Vc Fs c152.body (Af c152 [aS a,aI b]) [] (Aq c152 R)=qQ a b R:=by kernel_rfl
def mS (a:bA)(b:Int)(R:AV->Prop):Prop:=
 Ae (decide (b<0)) (KD R) (Ae (decide (b > 4096)) (KD R) (Ae (decide ((((ByteArray.size a):Nat):Int) > b)) (Wy R) ((0:Int)<=wI (eT b a)/\((Int.toNat (wI (eT b a))*1):Nat)<=140737488355328/\rn 0/\(rn 1\/@Eq LD (List.replicate (Int.toNat (wI (eT b a))) (D.int .u8 0)) [])/\((List.all (List.replicate (Int.toNat (wI (eT b a))) (D.int .u8 0)) Go.Mir.D.isU8):Bool)=true/\((((ByteArray.size a+ByteArray.size (ByteArray.mk (List.toArray (List.map Go.Mir.byteOf (List.replicate (Int.toNat (wI (eT b a))) (D.int .u8 0)))))):Nat):Int):Int)<=9223372036854775807/\R (.tup [aS (a++ByteArray.mk (List.toArray (List.map Go.Mir.byteOf (List.replicate (Int.toNat (wI (eT b a))) (D.int .u8 0))))),aI 0]))))
def xA:=λa b c=>PLift.up (by delta mS Wy EE E4 KD eT;exact rfl:mS a b c=_)
theorem ACB a b R:Vc Fs c184.body (Af c184 [aS a,aI b]) [] (Aq c184 R)=mS a b R:=by kernel_rfl
abbrev Z8 (a:AV->Prop):=
 a (.tup [aI 0,aI 0,aI 1])
abbrev dN (b:bA)(a:Int):=
 (((ByteArray.size b):Nat):Int)-a
abbrev qt_ (a:AV->Prop):=
 a (.tup [aI 0,aI 0,aI 3])
abbrev uK:=
 Int->LD->Int->Int->Prop
abbrev uV:=
 Int->LD->Int->Int->Nat
abbrev AX (b:LD)(a:Int)(c:D):=
 (b[Int.toNat a]?=some c)
def V40 (g:bA)(a b:Int)(R:AV->Prop):Prop:=
 Ae (decide (b<1)) (Z8 R) (Ae (decide (b > 6)) (Z8 R) (Ae (decide (a<0)) (Z8 R) (Ae (decide (a > (((ByteArray.size g):Nat):Int))) (Z8 R) (Ae (decide (wI (dN g a)<b)) (qt_ R) ((0:Int)<=wI (a+b)/\((wI (a+b)):Int)<=(((ByteArray.size g):Nat):Int)/\(0:Int)<=a/\(a:Int)<=(((Int.toNat (wI (a+b))):Nat):Int)/\∃(j:Int->Int->uK)(l:Int->Int->uV),(rh []/\j a b 0 (Go.Mir.bytesD (ByteArray.extract g (Int.toNat a) (Int.toNat (wI (a+b))))) ((Go.Mir.bytesD (ByteArray.extract g (Int.toNat a) (Int.toNat (wI (a+b))))).length:Int) 0)/\∀(e d i:Int)(h:LD)(f c:Int),j e d i h f c->∀o:Nat->AV,Ae (decide (c<f)) (rn 1/\(0:Int)<=c/\∃m:D,AX h c m/\∃k:Int,((D.cells m)[0]?=some (D.int .u8 k))/\(0:Int)<=8/\rh []/\j e d (wI (((BitVec.toNat (HOr.hOr (BitVec.ofInt (Go.IntKind.bits .i64) (wI (i*(2 ^ (Min.min (Int.toNat 8) (Go.IntKind.bits .i64)))))) (BitVec.ofInt (Go.IntKind.bits .i64) (wI k)))):Nat):Int)) h f (wI (c+1))/\((l e d (wI (((BitVec.toNat (HOr.hOr (BitVec.ofInt (Go.IntKind.bits .i64) (wI (i*(2 ^ (Min.min (Int.toNat 8) (Go.IntKind.bits .i64)))))) (BitVec.ofInt (Go.IntKind.bits .i64) (wI k)))):Nat):Int)) h f (wI (c+1))):Nat)<l e d i h f c) (R (.tup [aI i,aI (wI (e+d)),aI 0])))))))
def AGE:=λa b c d=>PLift.up (by delta V40 AX uV uK qt_ Z8 dN;exact rfl:V40 a b c d=_)
theorem AJh b c a R:Vc Fs c40.body (Af c40 [aS b,aI c,aI a]) [] (Aq c40 R)=V40 b c a R:=by kernel_rfl
abbrev iL:=
 Int->Int->Int->Prop
def kC (i:bA)(f g:Int)(R:AV->Prop):Prop:=
 Ae (decide (g<1)) (Z8 R) (Ae (decide (g > 6)) (Z8 R) (Ae (decide (f<0)) (Z8 R) (Ae (decide (f > (((ByteArray.size i):Nat):Int))) (Z8 R) (Ae (decide (wI (dN i f)<g)) (qt_ R) (∃(h:bA->Int->iL)(k:bA->Int->Int->Int->Int->Nat),(rh []/\h i f g 0 0)/\∀(d:bA)(a c e b:Int),h d a c e b->∀l:Nat->AV,Ae (decide (b<c)) ((0:Int)<=wI (a+b)/\∃j:UInt8,((GetElem?.getElem? (Ta d) (Int.toNat (wI (a+b)))):Option UInt8)=some j/\rh []/\h d a c (wI (wI (e*256)+wI (((UInt8.toNat j):Nat):Int))) (wI (b+1))/\((k d a c (wI (wI (e*256)+wI (((UInt8.toNat j):Nat):Int))) (wI (b+1))):Nat)<k d a c e b) (R (.tup [aI e,aI (wI (a+c)),aI 0])))))))
def wS:=λa b c d=>PLift.up (by delta kC qt_ iL Z8 dN Ta;exact rfl:kC a b c d=_)
theorem wQ b c a R:Vc Fs c186.body (Af c186 [aS b,aI c,aI a]) [] (Aq c186 R)=kC b c a R:=by kernel_rfl
def lZ (r:Int)(m:bA)(R:AV->Prop):Prop:=
 ∃(j:uK)(o:uV),(rh []/\j (IntKind.wrap .u32 (((BitVec.toNat (HXor.hXor (BitVec.ofInt (Go.IntKind.bits .u32) (Go.IntKind.max .u32)) (BitVec.ofInt (Go.IntKind.bits .u32) r))):Nat):Int)) (Go.Mir.bytesD m) ((Go.Mir.bytesD m).length:Int) 0)/\∀(g:Int)(i:LD)(h d:Int),j g i h d->∀s:Nat->AV,Ae (decide (d<h)) (rn 1/\(0:Int)<=d/\∃l:D,AX i d l/\∃q:Int,((D.cells l)[0]?=some (D.int .u8 q))/\∃(k:Int->LD->iL)(p:Int->LD->Int->Int->Int->Nat),(rh []/\k (IntKind.wrap .u32 (((BitVec.toNat (HXor.hXor (BitVec.ofInt (Go.IntKind.bits .u32) g) (BitVec.ofInt (Go.IntKind.bits .u32) (IntKind.wrap .u32 q)))):Nat):Int)) i h d 0)/\∀(a:Int)(c:LD)(e b f:Int),k a c e b f->∀t:Nat->AV,Ae (decide (f<8)) ((0:Int)<=1/\rh []/\k (IntKind.wrap .u32 (((BitVec.toNat (HXor.hXor (BitVec.ofInt (Go.IntKind.bits .u32) (Int.fdiv a (2 ^ (Min.min (Int.toNat 1) (Go.IntKind.bits .u32))))) (BitVec.ofInt (Go.IntKind.bits .u32) (IntKind.wrap .u32 (((BitVec.toNat (HAnd.hAnd (BitVec.ofInt (Go.IntKind.bits .u32) 2197175160) (BitVec.ofInt (Go.IntKind.bits .u32) (IntKind.wrap .u32 (0-(IntKind.wrap .u32 (((BitVec.toNat (HAnd.hAnd (BitVec.ofInt (Go.IntKind.bits .u32) a) (BitVec.ofInt (Go.IntKind.bits .u32) 1))):Nat):Int))))))):Nat):Int))))):Nat):Int)) c e b (wI (f+1))/\((p (IntKind.wrap .u32 (((BitVec.toNat (HXor.hXor (BitVec.ofInt (Go.IntKind.bits .u32) (Int.fdiv a (2 ^ (Min.min (Int.toNat 1) (Go.IntKind.bits .u32))))) (BitVec.ofInt (Go.IntKind.bits .u32) (IntKind.wrap .u32 (((BitVec.toNat (HAnd.hAnd (BitVec.ofInt (Go.IntKind.bits .u32) 2197175160) (BitVec.ofInt (Go.IntKind.bits .u32) (IntKind.wrap .u32 (0-(IntKind.wrap .u32 (((BitVec.toNat (HAnd.hAnd (BitVec.ofInt (Go.IntKind.bits .u32) a) (BitVec.ofInt (Go.IntKind.bits .u32) 1))):Nat):Int))))))):Nat):Int))))):Nat):Int)) c e b (wI (f+1))):Nat)<p a c e b f) (rh []/\j a c e (wI (b+1))/\((o a c e (wI (b+1))):Nat)<o g i h d)) (R (.n (D.int .u32 (IntKind.wrap .u32 (((BitVec.toNat (HXor.hXor (BitVec.ofInt (Go.IntKind.bits .u32) (Go.IntKind.max .u32)) (BitVec.ofInt (Go.IntKind.bits .u32) g))):Nat):Int)))))
def AAu:=λa b c=>PLift.up (by delta lZ AX uV uK iL;exact rfl:lZ a b c=_)
theorem AC6 a b R:Vc Fs c179.body (Af c179 [(.n (.int .u32 a)),aS b]) [] (Aq c179 R)=lZ a b R:=by kernel_rfl
def pS (o:Int)(m:bA)(R:AV->Prop):Prop:=
 ∃(j:bA->Int->Int->Prop)(k:bA->Int->Int->Nat),(rh []/\j m (IntKind.wrap .u32 (4294967295-o)) 0)/\∀(f:bA)(i h:Int),j f i h->∀q:Nat->AV,Ae (decide (h<(((ByteArray.size f):Nat):Int))) (∃(g:bA->iL)(e:bA->Int->Int->Int->Nat),(rh []/\g f i h 0)/\∀(c:bA)(d a b:Int),g c d a b->∀p:Nat->AV,Ae (decide (b<8)) ((0:Int)<=a/\∃l:UInt8,((GetElem?.getElem? (Ta c) (Int.toNat a)):Option UInt8)=some l/\(0:Int)<=IntKind.wrap .u64 b/\(2:Int)≠0/\(2:Int)≠0/\(2:Int)≠0/\Ae (Int.tmod d 2 != Int.tmod (Int.fdiv (IntKind.wrap .u32 (((UInt8.toNat l):Nat):Int)) (2 ^ (Min.min (Int.toNat (IntKind.wrap .u64 b)) (Go.IntKind.bits .u32)))) 2) (rh []/\g c (IntKind.wrap .u32 (((BitVec.toNat (HXor.hXor (BitVec.ofInt (Go.IntKind.bits .u32) (IntKind.wrap .u32 (Int.tdiv d 2))) (BitVec.ofInt (Go.IntKind.bits .u32) 2197175160))):Nat):Int)) a (wI (b+1))/\((e c (IntKind.wrap .u32 (((BitVec.toNat (HXor.hXor (BitVec.ofInt (Go.IntKind.bits .u32) (IntKind.wrap .u32 (Int.tdiv d 2))) (BitVec.ofInt (Go.IntKind.bits .u32) 2197175160))):Nat):Int)) a (wI (b+1))):Nat)<e c d a b) (rh []/\g c (IntKind.wrap .u32 (Int.tdiv d 2)) a (wI (b+1))/\((e c (IntKind.wrap .u32 (Int.tdiv d 2)) a (wI (b+1))):Nat)<e c d a b)) (rh []/\j c d (wI (a+1))/\((k c d (wI (a+1))):Nat)<k f i h)) (R (.n (D.int .u32 (IntKind.wrap .u32 (4294967295-i)))))
def vA:=λa b c=>PLift.up (by delta pS Ta iL;exact rfl:pS a b c=_)
theorem wU a b R:Vc Fs c225.body (Af c225 [(.n (.int .u32 a)),aS b]) [] (Aq c225 R)=pS a b R:=by kernel_rfl
abbrev B7 (b:D)(a:bA):=
 ((D.cells b)[0]?=some (D.str a))
def mG (h:LD)(R:AV->Prop):Prop:=
 ∃(e:uK)(i:uV),(rh []/\e 0 h (h.length:Int) 0)/\∀(d:Int)(b:LD)(c a:Int),e d b c a->∀k:Nat->AV,Ae (decide (a<c)) (rn 1/\(0:Int)<=a/\∃g:D,AX b a g/\∃j:bA,B7 g j/\∃f:Int,Runs Fs 179 [.n (D.int .u32 d),aS j] [] (.n (D.int .u32 f)) []/\rh []/\e f b c (wI (a+1))/\((i f b c (wI (a+1))):Nat)<i d b c a) (R (.n (D.int .u32 d)))
def ACl:=λa b=>PLift.up (by delta mG AX uK uV B7;exact rfl:mG a b=_)
theorem ABq a R:Vc Fs c144.body (Af c144 [aL a]) [] (Aq c144 R)=mG a R:=by kernel_rfl
def AGX (b:bA)(R:AV->Prop):Prop:=
 ∃a:Int,Runs Fs 225 [.n (D.int .u32 0),aS b] [] (.n (D.int .u32 a)) []/\R (.n (D.int .u32 a))
theorem ACU a R:Vc Fs c210.body (Af c210 [aS a]) [] (Aq c210 R)=AGX a R:=by kernel_rfl
def AGF (b:bA)(R:AV->Prop):Prop:=
 0=0/\∃a:Int,Runs Fs 144 [aL [D.str b]] [] (.n (D.int .u32 a)) []/\(0:Int)<=8/\(0:Int)<=16/\(0:Int)<=24/\rn 0/\(rn 1\/@Eq LD [D.int .u8 (IntKind.wrap .u8 a),D.int .u8 (IntKind.wrap .u8 (Int.fdiv a (2 ^ (Min.min (Int.toNat 8) (Go.IntKind.bits .u32))))),D.int .u8 (IntKind.wrap .u8 (Int.fdiv a (2 ^ (Min.min (Int.toNat 16) (Go.IntKind.bits .u32))))),D.int .u8 (IntKind.wrap .u8 (Int.fdiv a (2 ^ (Min.min (Int.toNat 24) (Go.IntKind.bits .u32)))))] [])/\((List.all [D.int .u8 (IntKind.wrap .u8 a),D.int .u8 (IntKind.wrap .u8 (Int.fdiv a (2 ^ (Min.min (Int.toNat 8) (Go.IntKind.bits .u32))))),D.int .u8 (IntKind.wrap .u8 (Int.fdiv a (2 ^ (Min.min (Int.toNat 16) (Go.IntKind.bits .u32))))),D.int .u8 (IntKind.wrap .u8 (Int.fdiv a (2 ^ (Min.min (Int.toNat 24) (Go.IntKind.bits .u32)))))] Go.Mir.D.isU8):Bool)=true/\0=0/\∃c:bA,Runs Fs 108 [aL [D.str b,D.str (ByteArray.mk (List.toArray (List.map Go.Mir.byteOf [D.int .u8 (IntKind.wrap .u8 a),D.int .u8 (IntKind.wrap .u8 (Int.fdiv a (2 ^ (Min.min (Int.toNat 8) (Go.IntKind.bits .u32))))),D.int .u8 (IntKind.wrap .u8 (Int.fdiv a (2 ^ (Min.min (Int.toNat 16) (Go.IntKind.bits .u32))))),D.int .u8 (IntKind.wrap .u8 (Int.fdiv a (2 ^ (Min.min (Int.toNat 24) (Go.IntKind.bits .u32)))))])))]] [] (aS c) []/\R (.n (.str c))
theorem ABE a R:Vc Fs c107.body (Af c107 [aS a]) [] (Aq c107 R)=AGF a R:=by kernel_rfl
def AHh (b:bA)(R:AV->Prop):Prop:=
 ∃a:Int,Runs Fs 210 [aS b] [] (.n (D.int .u32 a)) []/\(256:Int)≠0/\(256:Int)≠0/\(256:Int)≠0/\(65536:Int)≠0/\(256:Int)≠0/\(16777216:Int)≠0/\rn 0/\(rn 1\/@Eq LD [D.int .u8 (IntKind.wrap .u8 (Int.tmod a 256)),D.int .u8 (IntKind.wrap .u8 (Int.tmod (IntKind.wrap .u32 (Int.tdiv a 256)) 256)),D.int .u8 (IntKind.wrap .u8 (Int.tmod (IntKind.wrap .u32 (Int.tdiv a 65536)) 256)),D.int .u8 (IntKind.wrap .u8 (IntKind.wrap .u32 (Int.tdiv a 16777216)))] [])/\((List.all [D.int .u8 (IntKind.wrap .u8 (Int.tmod a 256)),D.int .u8 (IntKind.wrap .u8 (Int.tmod (IntKind.wrap .u32 (Int.tdiv a 256)) 256)),D.int .u8 (IntKind.wrap .u8 (Int.tmod (IntKind.wrap .u32 (Int.tdiv a 65536)) 256)),D.int .u8 (IntKind.wrap .u8 (IntKind.wrap .u32 (Int.tdiv a 16777216)))] Go.Mir.D.isU8):Bool)=true/\((((ByteArray.size b+ByteArray.size (ByteArray.mk (List.toArray (List.map Go.Mir.byteOf [D.int .u8 (IntKind.wrap .u8 (Int.tmod a 256)),D.int .u8 (IntKind.wrap .u8 (Int.tmod (IntKind.wrap .u32 (Int.tdiv a 256)) 256)),D.int .u8 (IntKind.wrap .u8 (Int.tmod (IntKind.wrap .u32 (Int.tdiv a 65536)) 256)),D.int .u8 (IntKind.wrap .u8 (IntKind.wrap .u32 (Int.tdiv a 16777216)))])))):Nat):Int):Int)<=9223372036854775807/\R (.n (.str (b++ByteArray.mk (List.toArray (List.map Go.Mir.byteOf [D.int .u8 (IntKind.wrap .u8 (Int.tmod a 256)),D.int .u8 (IntKind.wrap .u8 (Int.tmod (IntKind.wrap .u32 (Int.tdiv a 256)) 256)),D.int .u8 (IntKind.wrap .u8 (Int.tmod (IntKind.wrap .u32 (Int.tdiv a 65536)) 256)),D.int .u8 (IntKind.wrap .u8 (IntKind.wrap .u32 (Int.tdiv a 16777216)))])))))
theorem yN a R:Vc Fs c185.body (Af c185 [aS a]) [] (Aq c185 R)=AHh a R:=by kernel_rfl
abbrev qz_ (c b:Int)(a:AV->Prop)(d:bA):=
 Ae (decide (c>=1)) (Ae (decide (c<=5)) (Ae (decide (b>=0)) (Ae (decide (b<=1099511627776)) (a (.n (.bool (decide ((((ByteArray.size d):Nat):Int)<=4000))))) (a (.n (.bool false)))) (a (.n (.bool false)))) (a (.n (.bool false)))) (a (.n (.bool false)))
def jS (a c:Int)(b:bA)(R:AV->Prop):Prop:=
 qz_ a c R b
def AC3:=λa b c d=>PLift.up (by delta jS qz_;exact rfl:jS a b c d=_)
theorem ACu a c b R:Vc Fs c103.body (Af c103 [(.agg [aI a,aI c,aS b])]) [] (Aq c103 R)=jS a c b R:=by kernel_rfl
def lF (a c:Int)(b:bA)(R:AV->Prop):Prop:=
 qz_ a c R b
def ACQ:=λa b c d=>PLift.up (by delta lF qz_;exact rfl:lF a b c d=_)
theorem AAB a c b R:Vc Fs c187.body (Af c187 [(.agg [aI a,aI c,aS b])]) [] (Aq c187 R)=lF a c b R:=by kernel_rfl
abbrev qA_ (b a:bA)(c:Int):=
 Runs Fs 105 [aS b] [] (.tup [aS a,aI c]) []
abbrev iG (b a:bA):=
 Runs Fs 106 [aS b] [] (aS a) []
def V56 (a i:Int)(d:bA)(R:AV->Prop):Prop:=
 ∃e:Bool,Runs Fs 103 [.agg [aI a,aI i,aS d]] [] (aB e) []/\Ae (Bool.not e) (KD R) (∃(g:bA)(k:Int),Runs Fs 104 [aI a,aI 1] [] (.tup [aS g,aI k]) []/\∃(c:bA)(m:Int),Runs Fs 104 [aI i,aI 6] [] (.tup [aS c,aI m]) []/\∃(f:bA)(l:Int),qA_ d f l/\0=0/\∃b:bA,Runs Fs 108 [aL [D.str g,D.str c,D.str f]] [] (aS b) []/\∃j:bA,Runs Fs 107 [aS b] [] (aS j) []/\∃h:bA,iG j h/\R (.tup [aS h,aI 0]))
def AFT:=λa b c d=>PLift.up (by delta V56 qA_ EE E4 KD iG;exact rfl:V56 a b c d=_)
theorem AHg a c b R:Vc Fs c56.body (Af c56 [(.agg [aI a,aI c,aS b])]) [] (Aq c56 R)=V56 a c b R:=by kernel_rfl
abbrev iH (a:bA):=
 (((ByteArray.size a):Nat):Int)-4
abbrev KE (b a:bA):=
 ByteArray.toList b==ByteArray.toList a
def tD (a:bA)(R:AV->Prop):Prop:=
 Ae (decide (wI (iH a)<0)) (R (.tup [E4,aI 3])) ((0:Int)<=wI (iH a)/\((wI (iH a)):Int)<=(((ByteArray.size a):Nat):Int)/\∃b:bA,Runs Fs 107 [aS (ByteArray.extract a 0 (Int.toNat (wI (iH a))))] [] (aS b) []/\Ae (Bool.not (KE b a)) (R (.tup [E4,aI 41])) ((0:Int)<=wI (iH a)/\((wI (iH a)):Int)<=(((ByteArray.size a):Nat):Int)/\R (.tup [aS (ByteArray.extract a 0 (Int.toNat (wI (iH a)))),aI 0])))
def zQ:=λa b=>PLift.up (by delta tD iH E4 EE KE;exact rfl:tD a b=_)
theorem ACL a R:Vc Fs c153.body (Af c153 [aS a]) [] (Aq c153 R)=tD a R:=by kernel_rfl
abbrev Z3:AV:=
 .agg [aI 0,aI 0,E4]
abbrev Kw (b a c:Int):AV:=
 .tup [aI b,aI a,aI c]
abbrev iE (a:AV->Prop):=
 a (.tup [Z3,aI 4])
abbrev jF (a:AV->Prop):=
 a (.tup [Z3,aI 40])
abbrev Wx (a:bA):=
 ByteArray.toList a==ByteArray.toList EE
def sJ (p:bA)(R:AV->Prop):Prop:=
 ∃(c:bA)(g:Int),Runs Fs 152 [aS p,aI 4096] [] (.tup [aS c,aI g]) []/\Ae (g != 0) (R (.tup [Z3,aI 1])) (∃(a o l:Int),Runs Fs 40 [aS c,aI 7,aI 2] [] (Kw a o l) []/\Ae (decide (a > 4000)) (iE R) ((0:Int)<=wI (wI (9+a)+4)/\((wI (wI (9+a)+4)):Int)<=(((ByteArray.size c):Nat):Int)/\∃(b:bA)(e:Int),Runs Fs 153 [aS (ByteArray.extract c 0 (Int.toNat (wI (wI (9+a)+4))))] [] (.tup [aS b,aI e]) []/\Ae (e != 0) (R (.tup [Z3,aI e])) (∃(d i q:Int),Runs Fs 40 [aS b,aI 0,aI 1] [] (Kw d i q) []/\∃(f k m:Int),Runs Fs 40 [aS b,aI i,aI 6] [] (Kw f k m) []/\(0:Int)<=9/\(9:Int)<=(((ByteArray.size b):Nat):Int)/\Ae (decide (d<1)) (jF R) (Ae (decide (d > 5)) (jF R) (∃j:Bool,Runs Fs 103 [.agg [aI d,aI f,aS (ByteArray.extract b (Int.toNat 9) (ByteArray.size b))]] [] (aB j) []/\Ae (Bool.not j) (iE R) ((0:Int)<=wI (wI (9+a)+4)/\((wI (wI (9+a)+4)):Int)<=(((ByteArray.size c):Nat):Int)/\∃h:bA,Runs Fs 106 [aS (ByteArray.extract c (Int.toNat (wI (wI (9+a)+4))) (ByteArray.size c))] [] (aS h) []/\Ae (Bool.not (Wx h)) (iE R) (R (.tup [.agg [aI d,aI f,aS (ByteArray.extract b (Int.toNat 9) (ByteArray.size b))],aI 0]))))))))
def zR:=λa b=>PLift.up (by delta sJ EE Kw E4 Z3 iE Wx jF;exact rfl:sJ a b=_)
theorem vP a R:Vc Fs c119.body (Af c119 [aS a]) [] (Aq c119 R)=sJ a R:=by kernel_rfl
abbrev uH (a:bA):=
 decide ((((ByteArray.size a):Nat):Int) > 4096)
def jO (f:bA)(R:AV->Prop):Prop:=
 Ae (uH f) (R (.tup [Z3,aI 1])) (∃(c:bA)(l:Int),Runs Fs 184 [aS f,aI 4096] [] (.tup [aS c,aI l]) []/\(0:Int)<=7/\∃b:UInt8,((GetElem?.getElem? (Ta c) (Int.toNat 7)):Option UInt8)=some b/\(0:Int)<=8/\∃a:UInt8,((GetElem?.getElem? (Ta c) (Int.toNat 8)):Option UInt8)=some a/\Ae (decide (wI (wI (256*wI (((UInt8.toNat b):Nat):Int))+wI (((UInt8.toNat a):Nat):Int)) > 4000)) (iE R) ((0:Int)<=wI (9+wI (wI (256*wI (((UInt8.toNat b):Nat):Int))+wI (((UInt8.toNat a):Nat):Int)))/\((wI (9+wI (wI (256*wI (((UInt8.toNat b):Nat):Int))+wI (((UInt8.toNat a):Nat):Int)))):Int)<=(((ByteArray.size c):Nat):Int)/\∃i:bA,Runs Fs 185 [aS (ByteArray.extract c 0 (Int.toNat (wI (9+wI (wI (256*wI (((UInt8.toNat b):Nat):Int))+wI (((UInt8.toNat a):Nat):Int))))))] [] (aS i) []/\(0:Int)<=wI (13+wI (wI (256*wI (((UInt8.toNat b):Nat):Int))+wI (((UInt8.toNat a):Nat):Int)))/\((wI (13+wI (wI (256*wI (((UInt8.toNat b):Nat):Int))+wI (((UInt8.toNat a):Nat):Int)))):Int)<=(((ByteArray.size c):Nat):Int)/\Ae (Bool.not (ByteArray.toList i==ByteArray.toList (ByteArray.extract c 0 (Int.toNat (wI (13+wI (wI (256*wI (((UInt8.toNat b):Nat):Int))+wI (((UInt8.toNat a):Nat):Int)))))))) (R (.tup [Z3,aI 41])) (∃(e k j:Int),Runs Fs 186 [aS c,aI 1,aI 6] [] (Kw e k j) []/\(0:Int)<=0/\∃d:UInt8,((GetElem?.getElem? (Ta c) (Int.toNat 0)):Option UInt8)=some d/\(0:Int)<=wI (9+wI (wI (256*wI (((UInt8.toNat b):Nat):Int))+wI (((UInt8.toNat a):Nat):Int)))/\((wI (9+wI (wI (256*wI (((UInt8.toNat b):Nat):Int))+wI (((UInt8.toNat a):Nat):Int)))):Int)<=(((ByteArray.size c):Nat):Int)/\(0:Int)<=9/\(9:Int)<=(((Int.toNat (wI (9+wI (wI (256*wI (((UInt8.toNat b):Nat):Int))+wI (((UInt8.toNat a):Nat):Int))))):Nat):Int)/\Ae (decide (wI (((UInt8.toNat d):Nat):Int)<1)) (jF R) (Ae (decide (wI (((UInt8.toNat d):Nat):Int) > 5)) (jF R) (∃g:Bool,Runs Fs 187 [.agg [aI (wI (((UInt8.toNat d):Nat):Int)),aI e,aS (ByteArray.extract c (Int.toNat 9) (Int.toNat (wI (9+wI (wI (256*wI (((UInt8.toNat b):Nat):Int))+wI (((UInt8.toNat a):Nat):Int))))))]] [] (aB g) []/\Ae (Bool.not g) (iE R) ((0:Int)<=wI (13+wI (wI (256*wI (((UInt8.toNat b):Nat):Int))+wI (((UInt8.toNat a):Nat):Int)))/\((wI (13+wI (wI (256*wI (((UInt8.toNat b):Nat):Int))+wI (((UInt8.toNat a):Nat):Int)))):Int)<=(((ByteArray.size c):Nat):Int)/\∃h:bA,Runs Fs 188 [aS (ByteArray.extract c (Int.toNat (wI (13+wI (wI (256*wI (((UInt8.toNat b):Nat):Int))+wI (((UInt8.toNat a):Nat):Int))))) (ByteArray.size c))] [] (aS h) []/\Ae (Bool.not (Wx h)) (iE R) (R (.tup [.agg [aI (wI (((UInt8.toNat d):Nat):Int)),aI e,aS (ByteArray.extract c (Int.toNat 9) (Int.toNat (wI (9+wI (wI (256*wI (((UInt8.toNat b):Nat):Int))+wI (((UInt8.toNat a):Nat):Int))))))],aI 0]))))))))
def ABT:=λa b=>PLift.up (by delta jO uH EE Kw E4 Z3 Ta iE Wx jF;exact rfl:jO a b=_)
theorem ABf a R:Vc Fs c148.body (Af c148 [aS a]) [] (Aq c148 R)=jO a R:=by kernel_rfl
def tV (g:LD)(j:Int)(R:AV->Prop):Prop:=
 ∃(e:LD->iL)(h:LD->Int->Int->Int->Nat),(rh []/\e g j (g.length:Int) 0)/\∀(c:LD)(b d a:Int),e c b d a->∀k:Nat->AV,Ae (decide (a<d)) (rn 1/\(0:Int)<=a/\∃f:D,AX c a f/\∃i:Int,((D.cells f)[0]?=some (D.int .i64 i))/\Ae (b==i) (R (.n (.int .i64 a))) (rh []/\e c b d (wI (a+1))/\((h c b d (wI (a+1))):Nat)<h c b d a)) (R (.n (.int .i64 (-1))))
def zZ:=λa b c=>PLift.up (by delta tV AX iL;exact rfl:tV a b c=_)
theorem zI a b R:Vc Fs c154.body (Af c154 [aL a,aI b]) [] (Aq c154 R)=tV a b R:=by kernel_rfl
abbrev Ni (a:Int):AV:=
 aB (decide (a>=0))
def sW (b:LD)(c:Int)(R:AV->Prop):Prop:=
 ∃a:Int,Runs Fs 154 [aL b,aI c] [] (aI a) []/\R (Ni a)
def AAN:=λa b c=>PLift.up (by delta sW Ni;exact rfl:sW a b c=_)
theorem ADr a b R:Vc Fs c120.body (Af c120 [aL a,aI b]) [] (Aq c120 R)=sW a b R:=by kernel_rfl
abbrev Wt (b a:Int)(d:bA)(c:Int):AV:=
 .tup [.agg [aI b,aI a,aS d],aI c]
def V77 (f:bA)(g:LD)(R:AV->Prop):Prop:=
 ∃(b c:Int)(d:bA)(a:Int),Runs Fs 119 [aS f] [] (Wt b c d a) []/\Ae (a != 0) (R (.tup [Z3,aI a])) (∃e:Bool,Runs Fs 120 [aL g,aI b] [] (aB e) []/\Ae (Bool.not e) (jF R) (R (.tup [.agg [aI b,aI c,aS d],aI 0])))
def zE:=λa b c=>PLift.up (by delta V77 EE E4 Z3 Wt jF;exact rfl:V77 a b c=_)
theorem wF a b R:Vc Fs c77.body (Af c77 [aS a,aL b]) [] (Aq c77 R)=V77 a b R:=by kernel_rfl
abbrev qM_ (e:Int)(c:AV->Prop)(d:bA)(a b:Int):=
 Ae (e != 0) (c (.tup [E4,aI 0,aI e])) (Ae (decide (wI (dN d a)<b)) (c (.tup [E4,aI 0,aI 3])) ((0:Int)<=wI (a+b)/\((wI (a+b)):Int)<=(((ByteArray.size d):Nat):Int)/\(0:Int)<=a/\(a:Int)<=(((Int.toNat (wI (a+b))):Nat):Int)/\c (.tup [aS (ByteArray.extract d (Int.toNat a) (Int.toNat (wI (a+b)))),aI (wI (a+b)),aI 0])))
def V42 (a:bA)(e:Int)(R:AV->Prop):Prop:=
 ∃(c b d:Int),Runs Fs 40 [aS a,aI e,aI 2] [] (Kw c b d) []/\qM_ d R a b c
def AIW:=λa b c=>PLift.up (by delta V42 qM_ EE Kw E4 dN;exact rfl:V42 a b c=_)
theorem AHw a b R:Vc Fs c42.body (Af c42 [aS a,aI b]) [] (Aq c42 R)=V42 a b R:=by kernel_rfl
def kY (a:bA)(e:Int)(R:AV->Prop):Prop:=
 ∃(c b d:Int),Runs Fs 186 [aS a,aI e,aI 2] [] (Kw c b d) []/\qM_ d R a b c
def AC1:=λa b c=>PLift.up (by delta kY qM_ EE Kw E4 dN;exact rfl:kY a b c=_)
theorem xQ a b R:Vc Fs c189.body (Af c189 [aS a,aI b]) [] (Aq c189 R)=kY a b R:=by kernel_rfl
def V65 (a:bA)(R:AV->Prop):Prop:=
 Ae (decide ((((ByteArray.size a):Nat):Int)<=4096)) (∃b:bA,iG a b/\R (.n (.bool (KE b a)))) (R (.n (.bool false)))
def AEq:=λa b=>PLift.up (by delta V65 KE iG;exact rfl:V65 a b=_)
theorem AED a R:Vc Fs c65.body (Af c65 [aS a]) [] (Aq c65 R)=V65 a R:=by kernel_rfl
def AB6 (a:LD)(b:Int)(R:AV->Prop):Prop:=
 rn 1/\(0:Int)<=Cs false (wI (wI (b+1)*512)) (a.length:Int)/\((Cs false (wI (wI (b+1)*512)) (a.length:Int)):Int)<=(a.length:Int)/\(0:Int)<=Cs false (wI (wI (b+1)*512)) (a.length:Int)/\((Cs false (wI (wI (b+1)*512)) (a.length:Int)):Int)<=(((Int.toNat (Cs false (wI (wI (b+1)*512)) (a.length:Int))):Nat):Int)/\(0:Int)<=Cs false (wI (b*512)) (a.length:Int)/\((Cs false (wI (b*512)) (a.length:Int)):Int)<=(((Int.toNat (Cs false (wI (wI (b+1)*512)) (a.length:Int))):Nat):Int)/\(rn 1\/@Eq LD (List.drop (Int.toNat (Cs false (wI (b*512)) (a.length:Int))) (List.take (Int.toNat (Cs false (wI (wI (b+1)*512)) (a.length:Int))) a)) [])/\((List.all (List.drop (Int.toNat (Cs false (wI (b*512)) (a.length:Int))) (List.take (Int.toNat (Cs false (wI (wI (b+1)*512)) (a.length:Int))) a)) Go.Mir.D.isU8):Bool)=true/\R (.n (.str (ByteArray.mk (List.toArray (List.map Go.Mir.byteOf (List.drop (Int.toNat (Cs false (wI (b*512)) (a.length:Int))) (List.take (Int.toNat (Cs false (wI (wI (b+1)*512)) (a.length:Int))) a)))))))
theorem AAT a b R:Vc Fs c209.body (Af c209 [aL a,aI b]) [] (Aq c209 R)=AB6 a b R:=by kernel_rfl
abbrev aF:=
 Nat->Int->Nat×LD->Prop
abbrev fZ:=
 Nat->Int->Nat×LD->Nat
abbrev qP_ (h:bA)(b:(Nat×LD))(a:Nat)(k i:bA)(g:Int)(f:aF)(d:Int)(e:fZ):=
 ∃(c:bA)(j:Int),Runs Fs 152 [aS h,aI 512] [] (.tup [aS c,aI j]) []/\((MD b a/\rn 5)/\rn 1)/\((List.length (Prod.snd b)+ByteArray.size c):Nat)<=140737488355328/\rq (aS k)/\rq (aS i)/\rq (aI g)/\rh [(14700902,.row false true (a+1) 5 1 (Prod.snd b++Go.Mir.bytesD c))]/\f (a+1) (wI (d+1)) (a+1,Prod.snd b++Go.Mir.bytesD c)/\((e (a+1) (wI (d+1)) (a+1,Prod.snd b++Go.Mir.bytesD c)):Nat)<e a d b
def mX (e f:bA)(g:Int)(R:AV->Prop):Prop:=
 ∃(c:aF)(j:fZ),(rh [(14700902,.row false true 0 5 1 [])]/\c 0 0 (0,[]))/\∀(d:Nat)(a:Int)(b:Nat×LD),c d a b->∀l:Nat->AV,Ae (decide (a<8)) (∃i:bA,Runs Fs 183 [aS e,aI a] [] (aS i) []/\(0:Int)<=a/\Ae (wI (((BitVec.toNat (HAnd.hAnd (BitVec.ofInt (Go.IntKind.bits .i64) (Int.fdiv g (2 ^ (Min.min (Int.toNat a) (Go.IntKind.bits .i64))))) (BitVec.ofInt (Go.IntKind.bits .i64) 1))):Nat):Int)==1) (∃h:bA,Runs Fs 183 [aS f,aI a] [] (aS h) []/\qP_ h b d e f g c a j) (qP_ i b d e f g c a j)) (MD b d/\uJ b/\uU b/\∃k:bA,Runs Fs 106 [aS (tW b)] [] (aS k) []/\R (.n (.str k)))
def ABI:=λa b c d=>PLift.up (by delta mX MD qP_ uJ fZ aF uU tW;exact rfl:mX a b c d=_)
theorem zS b c a R:Vc Fs c147.body (Af c147 [aS b,aS c,aI a]) [] (Aq c147 R)=mX b c a R:=by kernel_rfl
def pK (d:bA)(a:Int)(R:AV->Prop):Prop:=
 Ae (decide (a<0)) (R E4) (Ae (decide (a>=8)) (R E4) (∃b:bA,Runs Fs 209 [aL (Go.Mir.bytesD d),aI a] [] (aS b) []/\∃c:bA,iG b c/\R (.n (.str c))))
def wX:=λa b c=>PLift.up (by delta pK E4 iG EE;exact rfl:pK a b c=_)
theorem xK a b R:Vc Fs c183.body (Af c183 [aS a,aI b]) [] (Aq c183 R)=pK a b R:=by kernel_rfl
abbrev jA (a:LD):=
 decide ((a.length:Int) > 2048)
abbrev FA (b a:LD):List AV:=
 [aL b,.o (D.sl 2 a)]
abbrev xI (a:LD):=
 hB 2300103 [aI (a.length:Int)]
abbrev Bw (b:Int)(a:LD):=
 decide (b<(a.length:Int))
abbrev E5 (a:LD):=
 rq (aI (a.length:Int))
def V23 (a c:LD)(R:AV->Prop):Prop:=
 Ae (decide ((a.length:Int)<1)) (R (.n (.bool false))) (Ae (jA a) (R (.n (.bool false))) (Ae (jA c) (R (.n (.bool false))) (∃(d:Int->Prop)(h:Int->Nat),(rh [hB 2300000 (FA a c),xI a]/\d 0)/\∀b:Int,d b->∀j:Nat->AV,Ae (Bw b a) (rn 1/\(0:Int)<=b/\∃i:D,AX a b i/\∃g:bA,B7 i g/\∃f:Bool,Runs Fs 65 [aS g] [] (aB f) []/\Ae (Bool.not f) (R (.n (.bool false))) (rq (.ptr 2300000 0)/\rq (.ptr 2300103 0)/\rq (aL a)/\E5 a/\rh [hB 2300000 (FA a c),xI a]/\d (wI (b+1))/\((h (wI (b+1))):Nat)<h b)) (∃e:Bool,Runs Fs 66 [.o (D.sl 2 c),.fn 67 [.ptr 2300103 0]] [xI a] (aB e) [xI a]/\R (.n (.bool (Bool.not e)))))))
def AEd:=λa b c=>PLift.up (by delta V23 AX FA jA Bw xI E5 B7;exact rfl:V23 a b c=_)
theorem AEp a b R:Vc Fs c23.body (Af c23 [(.agg [aL a,(.o (.sl 2 b))])]) [] (Aq c23 R)=V23 a b R:=by kernel_rfl
abbrev bB (a:Int):=
 hB 2300103 [aI a]
def mK (b:Int)(s:bA)(n:Int)(R:AV->Heap->Prop):Prop:=
 Ae (decide (b<0)) (R (.n (.bool true)) [bB n]) (Ae (decide (b>=n)) (R (.n (.bool true)) [bB n]) (∃a:Bool,Runs Fs 65 [aS s] [] (aB a) []/\R (.n (.bool (Bool.not a))) [bB n]))
def ABc:=λa b c d=>PLift.up (by delta mK bB;exact rfl:mK a b c d=_)
theorem yG (b:Int)(s:bA)(n:Int)(R:AV->Heap->Prop):Vc Fs c67.body (Af c67 [.agg [aI b,aS s],.ptr 2300103 0]) [(2300103,.box [aI n])] (AQ c67 [(2300103,.box [aI n])] R)=mK b s n R:=by kernel_rfl
abbrev Xc (b:D)(a:Int)(c:bA):=
 @Eq LD (List.take 2 (D.cells b)) [D.int .i64 a,D.str c]
abbrev Tq (a:D):=
 (2:Nat)<=List.length (D.cells a)
def Yf (b:LD)(n:Int)(R:AV->Heap->Prop):Prop:=
 ∃(c:Int->Prop)(g:Int->Nat),(rh [hB 2300103 [aI n]]/\c 0)/\∀a:Int,c a->∀i:Nat->AV,Ae (Bw a b) (rn 2/\(0:Int)<=a/\∃d:D,AX b a d/\∃(h:Int)(f:bA),Xc d h f/\Tq d/\∃e:Bool,Runs Fs 67 [.agg [aI h,aS f],.ptr 2300103 0] [hB 2300103 [aI n]] (aB e) [hB 2300103 [aI n]]/\Ae e (R (.n (.int .i64 a)) [bB n]) (rq (.o (D.sl 2 b))/\rq (.fn 67 [.ptr 2300103 0])/\E5 b/\rh [hB 2300103 [aI n]]/\c (wI (a+1))/\((g (wI (a+1))):Nat)<g a)) (R (.n (.int .i64 (-1))) [bB n])
def jK:=λa b c=>PLift.up (by delta Yf AX Tq Xc Bw E5 bB;exact rfl:Yf a b c=_)
theorem jZ (els:LD)(n:Int)(R:AV->Heap->Prop):Vc Fs c114.body (Af c114 [.o (.sl 2 els),.fn 67 [.ptr 2300103 0]]) [(2300103,.box [aI n])] (AQ c114 [(2300103,.box [aI n])] R)=Yf els n R:=by kernel_rfl
def pX (b:LD)(n:Int)(R:AV->Heap->Prop):Prop:=
 ∃a:Int,Runs Fs 114 [.o (D.sl 2 b),.fn 67 [.ptr 2300103 0]] [hB 2300103 [aI n]] (aI a) [hB 2300103 [aI n]]/\R (Ni a) [bB n]
def uY:=λa b c=>PLift.up (by delta pX Ni bB;exact rfl:pX a b c=_)
theorem ACr (els:LD)(n:Int)(R:AV->Heap->Prop):Vc Fs c66.body (Af c66 [.o (.sl 2 els),.fn 67 [.ptr 2300103 0]]) [(2300103,.box [aI n])] (AQ c66 [(2300103,.box [aI n])] R)=pX els n R:=by kernel_rfl
def W8 (k:Int)(a:LD)(R:AV->Heap->Prop):Prop:=
 Ae (Bw k a) (rn 1/\(0:Int)<=k/\∃c:D,AX a k c/\∃b:Int,((D.cells c)[0]?=some (D.int .i64 b))/\R (.n (.int .i64 b)) [hB 6200001 [aL a]]) (R (.n (.int .i64 0)) [hB 6200001 [aL a]])
def kR:=λa b c=>PLift.up (by delta W8 AX Bw;exact rfl:W8 a b c=_)
theorem qF (k:Int)(ms:LD)(R:AV->Heap->Prop):Vc Fs c111.body (Af c111 [aI k,.ptr 6200001 0]) [(6200001,.box [aL ms])] (AQ c111 [(6200001,.box [aL ms])] R)=W8 k ms R:=by kernel_rfl
abbrev fK:List AV:=
 [.n D.nil,.n D.nil]
abbrev uS:=
 hB 11000001 fK
abbrev uC (a:Nat):=
 hB 11000104 [.row 12400001 a,.n D.nil]
abbrev MS (b:Int)(a:(Nat×LD)):=
 (b:Int)<((Prod.snd a).length:Int)
abbrev eA (b:Nat)(a:(Nat×LD)):=
 (b:Nat)=Prod.fst a/\rn 1
abbrev fA (b:(Nat×LD))(a:Int)(c:D):=
 ((Prod.snd b)[Int.toNat a]?=some c)
abbrev RC (b:Int)(a:(Nat×LD)):=
 ((Int.toNat b):Nat)<List.length (Prod.snd a)
abbrev Wv (b:(Nat×LD))(a:Int)(c:bA):=
 List.set (Prod.snd b) (Int.toNat a) (D.str c)
def YR (k e f:LD)(R:AV->Heap->Prop):Prop:=
 ∃(b:Nat)(j:LD),Runs Fs 124 [aL k] [] (.row 12400001 b) [hR 12400001 b 9 1 j]/\∃(i:Int->Nat×LD->Prop)(p:Int->Nat×LD->Nat),(rh [hB 6200001 [aL f],hB 11000000 (FA k e),uS,uC b,hR 12400001 b 9 1 j]/\i 0 (b,j))/\∀(d:Int)(a:Nat×LD),i d a->∀r:Nat->AV,Ae (Bw d e) (rn 2/\(0:Int)<=d/\∃h:D,AX e d h/\∃(c:Int)(q:bA),Xc h c q/\Tq h/\Qf a b/\(0:Int)<=c/\MS c a/\eA b a/\∃m:D,fA a c m/\∃l:bA,B7 m l/\∃n:Int,Runs Fs 111 [aI d,.ptr 6200001 0] [hB 6200001 [aL f]] (aI n) [hB 6200001 [aL f]]/\∃g:bA,Runs Fs 147 [aS l,aS q,aI n] [] (aS g) []/\Qf a b/\(0:Int)<=c/\MS c a/\Ww b a/\RC c a/\rq (.fn 111 [.ptr 6200001 0])/\rq (.ptr 11000001 0)/\rq (.ptr 11000104 0)/\rq (.o (D.sl 2 e))/\rq (aI (e.length:Int))/\rh [hB 6200001 [aL f],hB 11000000 (FA k e),uS,uC b,hR 12400001 (Prod.fst a) 9 1 (Wv a c g)]/\i (wI (d+1)) (Prod.fst a,Wv a c g)/\((p (wI (d+1)) (Prod.fst a,Wv a c g)):Nat)<p d a) (Prod.fst a=b/\R (.agg [aL (Prod.snd a),.o (D.sl 2 [])]) [hB 6200001 [aL f]])
def jU:=λa b c d=>PLift.up (by delta YR MD fA RC Ww eA AX FA fK Wv uS MS uC Xc Bw Tq B7 Qf;exact rfl:YR a b c d=_)
theorem sC (bs:LD)(ps:LD)(ms:LD)(R:AV->Heap->Prop):Vc Fs c110.body (Af c110 [.agg [aL bs,.o (.sl 2 ps)],.fn 111 [.ptr 6200001 0]]) [(6200001,.box [aL ms])] (AQ c110 [(6200001,.box [aL ms])] R)=YR bs ps ms R:=by kernel_rfl
abbrev ER (b a:LD):AV:=
 .agg (FA b a)
abbrev Wq:AV:=
 .agg [aL [],.o (D.sl 2 [])]
def V62 (a d b:LD)(R:AV->Prop):Prop:=
 ∃e:Bool,Runs Fs 23 [ER a d] [] (aB e) []/\Ae (Bool.not e) (R (.tup [Wq,aI 1])) (∃(c f:LD),Runs Fs 110 [ER a d,.fn 111 [.ptr 6200001 0]] [hB 6200001 [aL b]] (ER c f) [hB 6200001 [aL b]]/\R (.tup [.agg [aL c,.o (D.sl 2 f)],aI 0]))
def AEU:=λa b c d=>PLift.up (by delta V62 FA ER Wq;exact rfl:V62 a b c d=_)
theorem AIP a c b R:Vc Fs c62.body (Af c62 [(.agg [aL a,(.o (.sl 2 c))]),aL b]) [] (Aq c62 R)=V62 a c b R:=by kernel_rfl
abbrev q8_ (a:AV->Prop):=
 a (.tup [aI 0,E4,aI 4])
def V80 (h:bA)(i:Int)(R:AV->Prop):Prop:=
 0=0/\∃(g f:Int)(a:bA)(c:Int),Runs Fs 77 [aS h,aL [D.int .i64 5]] [] (Wt g f a c) []/\Ae (c != 0) (R (.tup [aI 0,E4,aI c])) (∃(d b e:Int),Runs Fs 40 [aS a,aI 0,aI 1] [] (Kw d b e) []/\Ae (e != 0) (q8_ R) (Ae (f != i) (q8_ R) (Ae (decide (wI (dN a b) > 480)) (q8_ R) (Ae (decide (d>=8)) (q8_ R) ((0:Int)<=b/\(b:Int)<=(((ByteArray.size a):Nat):Int)/\R (.tup [aI d,aS (ByteArray.extract a (Int.toNat b) (ByteArray.size a)),aI 0]))))))
def AGA:=λa b c=>PLift.up (by delta V80 EE Kw E4 Wt dN q8_;exact rfl:V80 a b c=_)
theorem AG5 a b R:Vc Fs c80.body (Af c80 [aS a,aI b]) [] (Aq c80 R)=V80 a b R:=by kernel_rfl
abbrev zB:AV:=
 .agg [aI 0,aI 0,aI 0,aI 0]
abbrev Ia:=
 Int×Int×Int×Unit
abbrev Gg:=
 Int×Ia
abbrev WH:=
 Int×Int×bA×Unit
abbrev Sn:List AV:=
 [aI 0,aI 0,aI 0,aI 0]
abbrev U7 (a:AV->Prop):=
 a (.tup [zB,aI 4])
abbrev fG:=
 rq (.agg [.ptr 7600403 1,.ptr 7600403 2,.ptr 7600403 3])
abbrev aQ (a:Gg):=
 hB 7600000 [aI a.1,aI a.2.1,aI a.2.2.1,aI a.2.2.2.1]
abbrev gH (a:WH):=
 hB 7600106 [aI a.1,aI a.2.1,aS a.2.2.1]
abbrev dP (a:Gg):AV:=
 .agg [aI a.1,aI a.2.1,aI a.2.2.1,aI a.2.2.2.1]
def V76 (w:bA)(R:AV->Prop):Prop:=
 0=0/\∃(q g:Int)(l:bA)(o:Int),Runs Fs 77 [aS w,aL [D.int .i64 4]] [] (Wt q g l o) []/\Ae (o != 0) (R (.tup [zB,aI o])) (∃(h:Int->Int->Gg->WH->Gg->Prop)(f:Int->Int->Gg->WH->Gg->Nat),(rh [hB 7600000 Sn,(7600101,.row false true 0 3 1 [D.int .i64 4]),hB 7600106 [aI q,aI g,aS l],hB 7600403 [aI g,aI 0,aI 0,aI 0]]/\h 0 0 (0,0,0,0,()) (q,g,l,()) (g,0,0,0,()))/\∀(e d:Int)(b:Gg)(c:WH)(a:Gg),h e d b c a->∀x:Nat->AV,Ae (decide (d<3)) ((0:Int)<=d/\(d:Int)<((3:Nat):Int)/\Ae (d==((0:Nat):Int)) (∃(j r t:Int),Runs Fs 40 [aS c.2.2.1,aI e,aI 2] [] (Kw j r t) []/\Ae (t != 0) (U7 R) (rq (.ptr 7600000 0)/\rq (.ptr 7600106 0)/\rq (.ptr 7600403 0)/\fG/\rh [aQ b,(7600101,.row false true 0 3 1 [D.int .i64 4]),gH c,hB 7600403 [aI a.1,aI j,aI a.2.2.1,aI a.2.2.2.1]]/\h r (wI (d+1)) (b.1,b.2.1,b.2.2.1,b.2.2.2.1,()) (c.1,c.2.1,c.2.2.1,()) (a.1,j,a.2.2.1,a.2.2.2.1,())/\((f r (wI (d+1)) (b.1,b.2.1,b.2.2.1,b.2.2.2.1,()) (c.1,c.2.1,c.2.2.1,()) (a.1,j,a.2.2.1,a.2.2.2.1,())):Nat)<f e d b c a)) (Ae (d==(((0+1):Nat):Int)) (∃(k p v:Int),Runs Fs 40 [aS c.2.2.1,aI e,aI 2] [] (Kw k p v) []/\Ae (v != 0) (U7 R) (rq (.ptr 7600000 0)/\rq (.ptr 7600106 0)/\rq (.ptr 7600403 0)/\fG/\rh [aQ b,(7600101,.row false true 0 3 1 [D.int .i64 4]),gH c,hB 7600403 [aI a.1,aI a.2.1,aI k,aI a.2.2.2.1]]/\h p (wI (d+1)) (b.1,b.2.1,b.2.2.1,b.2.2.2.1,()) (c.1,c.2.1,c.2.2.1,()) (a.1,a.2.1,k,a.2.2.2.1,())/\((f p (wI (d+1)) (b.1,b.2.1,b.2.2.1,b.2.2.2.1,()) (c.1,c.2.1,c.2.2.1,()) (a.1,a.2.1,k,a.2.2.2.1,())):Nat)<f e d b c a)) (Ae (d==(((0+1+1):Nat):Int)) (∃(i m s:Int),Runs Fs 40 [aS c.2.2.1,aI e,aI 2] [] (Kw i m s) []/\Ae (s != 0) (U7 R) (rq (.ptr 7600000 0)/\rq (.ptr 7600106 0)/\rq (.ptr 7600403 0)/\fG/\rh [aQ b,(7600101,.row false true 0 3 1 [D.int .i64 4]),gH c,hB 7600403 [aI a.1,aI a.2.1,aI a.2.2.1,aI i]]/\h m (wI (d+1)) (b.1,b.2.1,b.2.2.1,b.2.2.2.1,()) (c.1,c.2.1,c.2.2.1,()) (a.1,a.2.1,a.2.2.1,i,())/\((f m (wI (d+1)) (b.1,b.2.1,b.2.2.1,b.2.2.2.1,()) (c.1,c.2.1,c.2.2.1,()) (a.1,a.2.1,a.2.2.1,i,())):Nat)<f e d b c a)) False))) (Ae (e != (((ByteArray.size c.2.2.1):Nat):Int)) (U7 R) (∃u:Bool,Runs Fs 109 [.agg [aI a.1,aI a.2.1,aI a.2.2.1,aI a.2.2.2.1]] [] (aB u) []/\Ae (Bool.not u) (U7 R) (R (.tup [dP a,aI 0])))))
def AI8:=λa b=>PLift.up (by delta V76 U7 Sn WH Kw Wt fG gH Gg zB Ia aQ dP;exact rfl:V76 a b=_)
theorem ADO a R:Vc Fs c76.body (Af c76 [aS a]) [] (Aq c76 R)=V76 a R:=by kernel_rfl
abbrev lG (e:LD)(a:Gg)(f:(Int->(Int->(Gg->Prop))))(c b:Int)(d:(Int->(Int->(Gg->Nat)))):=
 rq (.ptr 3500000 0)/\rq (.ptr 3500101 0)/\rq (aL e)/\rq (aI (e.length:Int))/\rh [hB 3500000 Sn,hB 3500101 [aI a.1,aI a.2.1,aI a.2.2.1,aI a.2.2.2.1]]/\f c (wI (b+1)) (a.1,a.2.1,a.2.2.1,a.2.2.2.1,())/\((d c (wI (b+1)) (a.1,a.2.1,a.2.2.1,a.2.2.2.1,())):Nat)<d c b a
def V35 (c:LD)(R:AV->Prop):Prop:=
 ∃(f:Int->Int->Gg->Prop)(h:Int->Int->Gg->Nat),(rh [hB 3500000 Sn,hB 3500101 Sn]/\f (-1) 0 (0,0,0,0,()))/\∀(b a:Int)(d:Gg),f b a d->∀o:Nat->AV,Ae (Bw a c) (rn 1/\(0:Int)<=a/\∃l:D,AX c a l/\∃k:bA,B7 l k/\∃(e i j g m:Int),Runs Fs 76 [aS k] [] (.tup [.agg [aI e,aI i,aI j,aI g],aI m]) []/\Ae (m==0) (Ae (decide (e > d.1)) (rq (.ptr 3500000 0)/\rq (.ptr 3500101 0)/\rq (aL c)/\rq (aI (c.length:Int))/\rh [hB 3500000 Sn,hB 3500101 [aI e,aI i,aI j,aI g]]/\f a (wI (a+1)) (e,i,j,g,())/\((h a (wI (a+1)) (e,i,j,g,())):Nat)<h b a d) (lG c d f b a h)) (lG c d f b a h)) (Ae (decide (b<0)) (R (.tup [zB,aI 0,aI 120])) (R (.tup [dP d,aI b,aI 0])))
def AJN:=λa b=>PLift.up (by delta V35 Sn AX lG Bw Gg zB Ia dP B7;exact rfl:V35 a b=_)
theorem AFl a R:Vc Fs c35.body (Af c35 [aL a]) [] (Aq c35 R)=V35 a R:=by kernel_rfl
abbrev gC (b:Int)(a:bA)(c:Int):=
 Runs Fs 104 [aI b,aI 2] [] (.tup [aS a,aI c]) []
def V58 (a j e c:Int)(R:AV->Prop):Prop:=
 ∃f:Bool,Runs Fs 109 [.agg [aI a,aI j,aI e,aI c]] [] (aB f) []/\Ae (Bool.not f) (KD R) (∃(h:bA)(l:Int),gC j h l/\∃(d:bA)(o:Int),gC e d o/\∃(g:bA)(m:Int),gC c g m/\0=0/\∃b:bA,Runs Fs 108 [aL [D.str h,D.str d,D.str g]] [] (aS b) []/\∃(k:bA)(i:Int),Runs Fs 56 [.agg [aI 4,aI a,aS b]] [] (.tup [aS k,aI i]) []/\R (.tup [aS k,aI i]))
def AHs:=λa b c d e=>PLift.up (by delta V58 E4 KD EE gC;exact rfl:V58 a b c d e=_)
theorem AJa a d b c R:Vc Fs c58.body (Af c58 [(.agg [aI a,aI d,aI b,aI c])]) [] (Aq c58 R)=V58 a d b c R:=by kernel_rfl
abbrev XP (b a d c:Int):=
 hB 10900000 [aI b,aI a,aI d,aI c]
abbrev sM (a e b f:Int)(d:AV->Prop):=
 ∃c:Bool,Runs Fs 146 [aI a,.ptr 10900000 0] [XP e b a f] (aB c) [XP e b a f]/\Ae c (d (.n (.bool (a != b)))) (d (.n (.bool false)))
def kG (a c d b:Int)(R:AV->Prop):Prop:=
 Ae (decide (a>=1)) (Ae (decide (a<=1099511627776)) (Ae (decide (b>=24)) (Ae (decide (b<=2048)) (Ae (c==0) (sM d a c b R) (∃e:Bool,Runs Fs 146 [aI c,.ptr 10900000 0] [XP a c d b] (aB e) [XP a c d b]/\Ae e (sM d a c b R) (R (.n (.bool false))))) (R (.n (.bool false)))) (R (.n (.bool false)))) (R (.n (.bool false)))) (R (.n (.bool false)))
def ABR:=λa b c d e=>PLift.up (by delta kG sM XP;exact rfl:kG a b c d e=_)
theorem xP a d b c R:Vc Fs c109.body (Af c109 [(.agg [aI a,aI d,aI b,aI c])]) [] (Aq c109 R)=kG a d b c R:=by kernel_rfl
abbrev H5 (b a:LD):=
 (b.length:Int) != (a.length:Int)
abbrev eX (b d:LD)(e:(Int->Prop))(a:Int)(c:(Int->Nat)):=
 rq (aL b)/\rq (aL d)/\rq (aI (b.length:Int))/\rh []/\e (wI (a+1))/\((c (wI (a+1))):Nat)<c a
def V99 (b d:LD)(R:AV->Prop):Prop:=
 Ae (H5 b d) (R (.n (.bool false))) (∃(c:Int->Prop)(i:Int->Nat),(rh []/\c 0)/\∀a:Int,c a->∀j:Nat->AV,Ae (Bw a b) (rn 1/\(0:Int)<=a/\∃h:D,AX b a h/\∃g:bA,B7 h g/\rn 1/\(0:Int)<=a/\∃f:D,AX d a f/\∃e:bA,B7 f e/\Ae (Bool.not (KE g e)) (R (.n (.bool false))) (eX b d c a i)) (R (.n (.bool true))))
def AIr:=λa b c=>PLift.up (by delta V99 AX eX H5 Bw KE B7;exact rfl:V99 a b c=_)
theorem AJb a b R:Vc Fs c99.body (Af c99 [aL a,aL b]) [] (Aq c99 R)=V99 a b R:=by kernel_rfl
abbrev Q8 (a:(Nat×LD))(b:Nat)(c:AV->Prop):=
 Prod.fst a=b/\c (.o (.sl 1 (Prod.snd a)))
abbrev Lg (a:bA):=
 rn 1\/@Eq LD [D.str a] []
abbrev Mp (b:(Nat×LD))(a:bA):=
 (((List.length (Prod.snd b)+List.length [D.str a])*16):Nat)<=140737488355328
abbrev CL (b:(Nat×LD))(a:bA):=
 Prod.snd b++[D.str a]
def V38 (i:Int)(e:LD)(R:AV->Prop):Prop:=
 ∃(f:aF)(j:fZ),(rh [(3800803,.row false true 0 9 1 [])]/\f 0 0 (0,[]))/\∀(a:Nat)(c:Int)(b:Nat×LD),f a c b->∀m:Nat->AV,Ae (Bw c e) (rn 1/\(0:Int)<=c/\∃h:D,AX e c h/\∃g:bA,B7 h g/\∃(l:Int)(d:bA)(k:Int),Runs Fs 80 [aS g,aI i] [] (.tup [aI l,aS d,aI k]) []/\Ae (k != 0) (Q8 b a R) (Ae (l != c) (Q8 b a R) (rn 0/\Lg d/\((MD b a/\rn 9)/\rn 1)/\Mp b d/\rq (aI i)/\rq (aL e)/\rq (aI (e.length:Int))/\rh [(3800803,.row false true (a+1) 9 1 (CL b d))]/\f (a+1) (wI (c+1)) (a+1,CL b d)/\((j (a+1) (wI (c+1)) (a+1,CL b d)):Nat)<j a c b))) (Q8 b a R)
def AHH:=λa b c=>PLift.up (by delta V38 MD CL AX Q8 fZ Lg Bw aF Mp B7;exact rfl:V38 a b c=_)
theorem AIQ a b R:Vc Fs c38.body (Af c38 [aI a,aL b]) [] (Aq c38 R)=V38 a b R:=by kernel_rfl
abbrev tT (b a d c:Int):=
 hB 10900000 [aI b,aI a,aI d,aI c]
def Z0 (x g r m z:Int)(R:AV->Heap->Prop):Prop:=
 Ae (decide (x>=10)) (R (.n (.bool (decide (x<z)))) [tT g r m z]) (R (.n (.bool false)) [tT g r m z])
def qV:=λa b c d e f=>PLift.up (by delta Z0 tT;exact rfl:Z0 a b c d e f=_)
theorem jJ (x:Int)(g:Int)(r:Int)(m:Int)(z:Int)(R:AV->Heap->Prop):Vc Fs c146.body (Af c146 [(aI x),(.ptr 10900000 0)]) [(10900000,.box [aI g,aI r,aI m,aI z])] (AQ c146 [(10900000,.box [aI g,aI r,aI m,aI z])] R)=Z0 x g r m z R:=by kernel_rfl
abbrev YC (b a d c:LD):=
 rh [hB 9700000 (FA b a),hB 9700001 (FA d c)]
def V97 (c d f e:LD)(R:AV->Prop):Prop:=
 Ae (H5 c f) (R (.n (.bool false))) (Ae (H5 d e) (R (.n (.bool false))) (∃(j:Int->Prop)(m:Int->Nat),(YC c d f e/\j 0)/\∀a:Int,j a->∀w:Nat->AV,Ae (Bw a c) (rn 1/\(0:Int)<=a/\∃p:D,AX c a p/\∃t:bA,B7 p t/\rn 1/\(0:Int)<=a/\∃l:D,AX f a l/\∃k:bA,B7 l k/\Ae (Bool.not (KE t k)) (R (.n (.bool false))) (rq (.ptr 9700000 0)/\rq (.ptr 9700001 0)/\E5 c/\YC c d f e/\j (wI (a+1))/\((m (wI (a+1))):Nat)<m a)) (∃(h:Int->Prop)(s:Int->Nat),(YC c d f e/\h 0)/\∀b:Int,h b->∀v:Nat->AV,Ae (Bw b d) (rn 2/\(0:Int)<=b/\∃g:D,AX d b g/\∃(u:Int)(o:bA),Xc g u o/\Tq g/\rn 2/\(0:Int)<=b/\∃i:D,AX e b i/\∃(q:Int)(r:bA),Xc i q r/\Tq i/\Ae (Bool.not (u==q&&(KE o r&&true))) (R (.n (.bool false))) (rq (.ptr 9700000 0)/\rq (.ptr 9700001 0)/\E5 d/\YC c d f e/\h (wI (b+1))/\((s (wI (b+1))):Nat)<s b)) (R (.n (.bool true))))))
def AI2:=λa b c d e=>PLift.up (by delta V97 AX FA Tq YC Xc Bw H5 KE E5 B7;exact rfl:V97 a b c d e=_)
theorem AIM a d c b R:Vc Fs c97.body (Af c97 [(.agg [aL a,(.o (.sl 2 d))]),(.agg [aL c,(.o (.sl 2 b))])]) [] (Aq c97 R)=V97 a d c b R:=by kernel_rfl
abbrev Jq (b:Int)(a:LD):=
 decide (b>=(a.length:Int))
def V26 (a b:LD)(R:AV->Prop):Prop:=
 Ae (decide ((a.length:Int)<1)) (R (.n (.bool false))) (Ae (jA a) (R (.n (.bool false))) (Ae (jA b) (R (.n (.bool false))) (∃(h:Int->Prop)(j:Int->Nat),(rh [hB 2600000 (FA a b)]/\h 0)/\∀c:Int,h c->∀s:Nat->AV,Ae (Bw c a) (rn 1/\(0:Int)<=c/\∃l:D,AX a c l/\∃p:bA,B7 l p/\∃i:Bool,Runs Fs 68 [aS p] [] (aB i) []/\Ae (Bool.not i) (R (.n (.bool false))) (rq (.ptr 2600000 0)/\E5 a/\rq (aL a)/\E5 a/\rh [hB 2600000 (FA a b)]/\h (wI (c+1))/\((j (wI (c+1))):Nat)<j c)) (∃(f:Int->Prop)(m:Int->Nat),(rh [hB 2600000 (FA a b)]/\f 0)/\∀d:Int,f d->∀r:Nat->AV,Ae (Bw d b) (rn 2/\(0:Int)<=d/\∃e:D,AX b d e/\∃(g:Int)(q:bA),Xc e g q/\Tq e/\Ae (decide (g<0)) (R (.n (.bool false))) (Ae (Jq g a) (R (.n (.bool false))) (∃k:Bool,Runs Fs 68 [aS q] [] (aB k) []/\Ae (Bool.not k) (R (.n (.bool false))) (E5 a/\rq (.o (D.sl 2 b))/\E5 b/\rh [hB 2600000 (FA a b)]/\f (wI (d+1))/\((m (wI (d+1))):Nat)<m d)))) (R (.n (.bool true)))))))
def AFW:=λa b c=>PLift.up (by delta V26 Jq AX FA Tq jA Xc Bw E5 B7;exact rfl:V26 a b c=_)
theorem AIv a b R:Vc Fs c26.body (Af c26 [(.agg [aL a,(.o (.sl 2 b))])]) [] (Aq c26 R)=V26 a b R:=by kernel_rfl
def V68 (a:bA)(R:AV->Prop):Prop:=
 Ae (decide ((((ByteArray.size a):Nat):Int)<=4096)) (Ae ((((ByteArray.size a):Nat):Int)==0) (R (.n (.bool true))) ((0:Int)<=wI ((((ByteArray.size a):Nat):Int)-1)/\∃b:UInt8,((GetElem?.getElem? (Ta a) (Int.toNat (wI ((((ByteArray.size a):Nat):Int)-1)))):Option UInt8)=some b/\R (.n (.bool ((((UInt8.toNat b):Nat):Int) != 0))))) (R (.n (.bool false)))
def AHO:=λa b=>PLift.up (by delta V68 Ta;exact rfl:V68 a b=_)
theorem AJK a R:Vc Fs c68.body (Af c68 [aS a]) [] (Aq c68 R)=V68 a R:=by kernel_rfl
def Xl (j e:LD)(R:AV->Prop):Prop:=
 ∃(b:Nat)(i:LD),Runs Fs 124 [aL j] [] (.row 12400001 b) [hR 12400001 b 9 1 i]/\∃(h:Int->Nat×LD->Prop)(n:Int->Nat×LD->Nat),(rh [hB 11000000 (FA j e),uS,uC b,hR 12400001 b 9 1 i]/\h 0 (b,i))/\∀(d:Int)(a:Nat×LD),h d a->∀q:Nat->AV,Ae (Bw d e) (rn 2/\(0:Int)<=d/\∃g:D,AX e d g/\∃(c:Int)(p:bA),Xc g c p/\Tq g/\Qf a b/\(0:Int)<=c/\MS c a/\eA b a/\∃l:D,fA a c l/\∃k:bA,B7 l k/\∃m:Int,Runs Fs 118 [aI d] [] (aI m) []/\∃f:bA,Runs Fs 147 [aS k,aS p,aI m] [] (aS f) []/\Qf a b/\(0:Int)<=c/\MS c a/\Ww b a/\RC c a/\rq (.fn 118 [])/\rq (.ptr 11000001 0)/\rq (.ptr 11000104 0)/\rq (.o (D.sl 2 e))/\rq (aI (e.length:Int))/\rh [hB 11000000 (FA j e),uS,uC b,hR 12400001 (Prod.fst a) 9 1 (Wv a c f)]/\h (wI (d+1)) (Prod.fst a,Wv a c f)/\((n (wI (d+1)) (Prod.fst a,Wv a c f)):Nat)<n d a) (Prod.fst a=b/\R (.agg [aL (Prod.snd a),.o (D.sl 2 [])]))
def pB:=λa b c=>PLift.up (by delta Xl MD fA RC Ww eA AX FA fK Wv uS MS uC Xc Bw Tq B7 Qf;exact rfl:Xl a b c=_)
theorem kW b a R:Vc Fs c110.body (Af c110 [.agg [aL b,.o (.sl 2 a)],.fn 118 []]) [] (Aq c110 R)=Xl b a R:=by kernel_rfl
def AH4 (a:Int)(R:AV->Prop):Prop:=
 R (.n (.int .i64 255))
theorem vS a R:Vc Fs c118.body (Af c118 [aI a]) [] (Aq c118 R)=AH4 a R:=by kernel_rfl
def V73 (a c:LD)(R:AV->Prop):Prop:=
 ∃d:Bool,Runs Fs 23 [ER a c] [] (aB d) []/\Ae (Bool.not d) (R (.tup [Wq,aI 1])) (∃(b e:LD),Runs Fs 110 [ER a c,.fn 118 []] [] (ER b e) []/\R (.tup [.agg [aL b,.o (D.sl 2 e)],aI 0]))
def AEz:=λa b c=>PLift.up (by delta V73 FA ER Wq;exact rfl:V73 a b c=_)
theorem AHR a b R:Vc Fs c73.body (Af c73 [(.agg [aL a,(.o (.sl 2 b))])]) [] (Aq c73 R)=V73 a b R:=by kernel_rfl
def lO (a d:LD)(c:Int)(R:AV->Prop):Prop:=
 ∃b:Bool,Runs Fs 23 [ER a d] [] (aB b) []/\Ae (Bool.not b) (R (.n (.int .i64 1))) (Ae (decide (c<0)) (R (.n (.int .i64 30))) (Ae (Jq c a) (R (.n (.int .i64 30))) (R (.n (.int .i64 0)))))
def ACm:=λa b c d=>PLift.up (by delta lO FA ER Jq;exact rfl:lO a b c d=_)
theorem ABW a c b R:Vc Fs c136.body (Af c136 [(.agg [aL a,(.o (.sl 2 c))]),aI b]) [] (Aq c136 R)=lO a c b R:=by kernel_rfl
abbrev OG (b:AV->Prop)(a:Int):=
 b (.tup [Wq,aI a])
def lK (g f:LD)(c:Int)(h:bA)(R:AV->Prop):Prop:=
 ∃d:Int,Runs Fs 136 [ER g f,aI c] [] (aI d) []/\Ae (d != 0) (OG R d) (Ae (uH h) (R (.tup [Wq,aI 2])) (Ae (decide ((f.length:Int)>=2048)) (R (.tup [Wq,aI 2])) (∃(a:Nat)(e:LD),Runs Fs 151 [.o (D.sl 2 f)] [] (.row 15100001 a) [hR 15100001 a 126 2 e]/\∃b:bA,iG h b/\rn 0/\(rn 2\/@Eq LD [D.rcd [D.int .i64 c,D.str b]] [])/\((rn a/\rn 126)/\rn 2)/\(((List.length e+List.length [D.rcd [D.int .i64 c,D.str b]])*24):Nat)<=140737488355328/\a+1=a+1/\R (.tup [.agg [aL g,.o (D.sl 2 (e++[D.rcd [D.int .i64 c,D.str b]]))],aI 0]))))
def yV:=λa b c d e=>PLift.up (by delta lK Wq uH FA OG iG ER;exact rfl:lK a b c d e=_)
theorem ACc a d c b R:Vc Fs c117.body (Af c117 [(.agg [aL a,(.o (.sl 2 d))]),aI c,aS b]) [] (Aq c117 R)=lK a d c b R:=by kernel_rfl
abbrev RM (a:bA):=
 decide ((((ByteArray.size a):Nat):Int) > 480)
abbrev Pz:List AV:=
 [.ptr 1000301 0,.ptr 1000000 0,.ptr 1000300 0]
abbrev fB (a:AV->Prop):=
 a (.tup [.o (D.sl 3 []),aI 4])
abbrev pW (c:bA)(e f:Int)(g d:bA)(b a:Int):=
 Runs Fs 41 Pz [hB 1000000 [aS c],hB 1000300 [aI e],hB 1000301 [aI f]] (aS g) [hB 1000000 [aS d],hB 1000300 [aI b],hB 1000301 [aI a]]
abbrev UU (b a:bA)(c:Int):=
 D.rcd [D.str b,D.str a,D.bool (c==1)]
abbrev Hq (a:(Nat×LD)):=
 List.length (Prod.snd a)
abbrev VI (b:bA)(a:Int):=
 D.rcd [D.str b,D.str EE,D.bool (a==1)]
abbrev nD (t:bA)(r s d:Int)(b:(Nat×LD))(a:Nat)(p:(Nat->(Int->((bA×(Unit))->((Int×(Unit))->((Int×(Unit))->((Nat×LD)->Prop)))))))(e:Int)(k:(Nat->(Int->((bA×(Unit))->((Int×(Unit))->((Int×(Unit))->((Nat×LD)->Nat)))))))(o:(bA×(Unit)))(n q:(Int×(Unit))):=
 ∃(c g:bA)(i h:Int),pW t r s c g i h/\Ae (Bool.not (d==1)) (∃(f m:bA)(j l:Int),pW g i h f m j l/\rn 0/\(rn 3\/@Eq LD [UU c f d] [])/\((MD b a/\rn 81)/\rn 3)/\(((Hq b+List.length [UU c f d])*40):Nat)<=140737488355328/\rq (.ptr 1000000 0)/\rq (.ptr 1000300 0)/\rq (.ptr 1000301 0)/\rq (.fn 39 Pz)/\rq (.fn 41 Pz)/\rh [hB 1000000 [aS m],hB 1000300 [aI j],hB 1000301 [aI l],(1001603,.row false true (a+1) 81 3 (Prod.snd b++[UU c f d]))]/\p (a+1) (wI (e-1)) (m,()) (j,()) (l,()) (a+1,Prod.snd b++[UU c f d])/\((k (a+1) (wI (e-1)) (m,()) (j,()) (l,()) (a+1,Prod.snd b++[UU c f d])):Nat)<k a e o n q b) (rn 0/\(rn 3\/@Eq LD [VI c d] [])/\((MD b a/\rn 81)/\rn 3)/\(((Hq b+List.length [VI c d])*40):Nat)<=140737488355328/\rq (.ptr 1000000 0)/\rq (.ptr 1000300 0)/\rq (.ptr 1000301 0)/\rq (.fn 39 Pz)/\rq (.fn 41 Pz)/\rh [hB 1000000 [aS g],hB 1000300 [aI i],hB 1000301 [aI h],(1001603,.row false true (a+1) 81 3 (Prod.snd b++[VI c d]))]/\p (a+1) (wI (e-1)) (g,()) (i,()) (h,()) (a+1,Prod.snd b++[VI c d])/\((k (a+1) (wI (e-1)) (g,()) (i,()) (h,()) (a+1,Prod.snd b++[VI c d])):Nat)<k a e o n q b)
abbrev qW (e:(Int×(Unit)))(b:AV->Prop)(f:(Int×(Unit)))(g:(bA×(Unit)))(a:(Nat×LD))(d:Nat):=
 Ae (e.1 != 0) (b (.tup [.o (D.sl 3 []),aI e.1])) (Ae (f.1 != (((ByteArray.size g.1):Nat):Int)) (fB b) (Prod.fst a=d/\∃c:Bool,Runs Fs 43 [.o (D.sl 3 (Prod.snd a)),.fn 44 []] [] (aB c) []/\Ae c (fB b) (Prod.fst a=d/\b (.tup [.o (D.sl 3 (Prod.snd a)),aI 0]))))
def V10 (r:bA)(R:AV->Prop):Prop:=
 Ae (RM r) (R (.tup [.o (D.sl 3 []),aI 2])) (∃(q:Int)(k:bA)(j p:Int),Runs Fs 39 Pz [hB 1000000 [aS r],hB 1000300 [aI 0],hB 1000301 [aI 0]] (aI q) [hB 1000000 [aS k],hB 1000300 [aI j],hB 1000301 [aI p]]/\∃(g:Nat->Int->bA×Unit->Int×Unit->Int×Unit->Nat×LD->Prop)(s:Nat->Int->bA×Unit->Int×Unit->Int×Unit->Nat×LD->Nat),(rh [hB 1000000 [aS k],hB 1000300 [aI j],hB 1000301 [aI p],(1001603,.row false true 0 81 3 [])]/\g 0 q (k,()) (j,()) (p,()) (0,[]))/\∀(e:Nat)(f:Int)(b:bA×Unit)(c a:Int×Unit)(d:Nat×LD),g e f b c a d->∀t:Nat->AV,Ae (decide (f > 0)) (Ae (a.1==0) (∃(i:Int)(l:bA)(m h:Int),Runs Fs 39 Pz [hB 1000000 [aS b.1],hB 1000300 [aI c.1],hB 1000301 [aI a.1]] (aI i) [hB 1000000 [aS l],hB 1000300 [aI m],hB 1000301 [aI h]]/\Ae (h==0) (Ae (decide (i > 1)) (fB R) (nD l m h i d e g f s b c a)) (nD l m h i d e g f s b c a)) (qW a R c b d e)) (qW a R c b d e))
def AHm:=λa b=>PLift.up (by delta V10 MD qW EE VI RM UU Hq fB Pz pW nD;exact rfl:V10 a b=_)
theorem AI1 a R:Vc Fs c10.body (Af c10 [aS a]) [] (Aq c10 R)=V10 a R:=by kernel_rfl
abbrev dJ (b c:bA)(d:Bool)(e:AV->Prop):=
 ∃a:Bool,Runs Fs 45 [.agg [aS b,aS c,aB d]] [] (aB a) []/\e (.n (.bool (Bool.not a)))
def nL (a c:bA)(b:Bool)(R:AV->Prop):Prop:=
 dJ a c b R
def AAp:=λa b c d=>PLift.up (by delta nL dJ;exact rfl:nL a b c d=_)
theorem ABa a c b R:Vc Fs c115.body (Af c115 [(.agg [aS a,aS c,aB b])]) [] (Aq c115 R)=nL a c b R:=by kernel_rfl
abbrev V2 (a:bA):=
 decide ((((ByteArray.size a):Nat):Int)>=1)
abbrev VY (a:bA):=
 decide ((((ByteArray.size a):Nat):Int)<=32)
def V45 (a b:bA)(c:Bool)(R:AV->Prop):Prop:=
 Ae (V2 a) (Ae (VY a) (Ae (decide ((((ByteArray.size b):Nat):Int)<=200)) (Ae (Bool.not c) (R (.n (.bool true))) (R (.n (.bool (Wx b))))) (R (.n (.bool false)))) (R (.n (.bool false)))) (R (.n (.bool false)))
def AHE:=λa b c d=>PLift.up (by delta V45 VY V2 Wx EE;exact rfl:V45 a b c d=_)
theorem AII a c b R:Vc Fs c45.body (Af c45 [(.agg [aS a,aS c,aB b])]) [] (Aq c45 R)=V45 a c b R:=by kernel_rfl
def V44 (a c:bA)(b:Bool)(R:AV->Prop):Prop:=
 dJ a c b R
def ADM:=λa b c d=>PLift.up (by delta V44 dJ;exact rfl:V44 a b c d=_)
theorem AJg a c b R:Vc Fs c44.body (Af c44 [(.agg [aS a,aS c,aB b])]) [] (Aq c44 R)=V44 a c b R:=by kernel_rfl
def mT (b:LD)(R:AV->Prop):Prop:=
 ∃a:Int,Runs Fs 81 [.o (D.sl 3 b),.fn 115 []] [] (aI a) []/\R (Ni a)
def ADs:=λa b=>PLift.up (by delta mT Ni;exact rfl:mT a b=_)
theorem ADp a R:Vc Fs c43.body (Af c43 [.o (.sl 3 a),.fn 115 []]) [] (Aq c43 R)=mT a R:=by kernel_rfl
abbrev Py (b:D)(a d:bA)(c:Bool):=
 @Eq LD (List.take 3 (D.cells b)) [D.str a,D.str d,D.bool c]
abbrev Q4 (a:D):=
 (3:Nat)<=List.length (D.cells a)
def sO (b:LD)(R:AV->Prop):Prop:=
 ∃(c:Int->Prop)(g:Int->Nat),(rh []/\c 0)/\∀a:Int,c a->∀j:Nat->AV,Ae (Bw a b) (rn 3/\(0:Int)<=a/\∃d:D,AX b a d/\∃(h f:bA)(e:Bool),Py d h f e/\Q4 d/\∃i:Bool,Runs Fs 115 [.agg [aS h,aS f,aB e]] [] (aB i) []/\Ae i (R (.n (.int .i64 a))) (rq (.o (D.sl 3 b))/\rq (.fn 115 [])/\rq (aI (b.length:Int))/\rh []/\c (wI (a+1))/\((g (wI (a+1))):Nat)<g a)) (R (.n (.int .i64 (-1))))
def ACz:=λa b=>PLift.up (by delta sO AX Q4 Py Bw;exact rfl:sO a b=_)
theorem wW a R:Vc Fs c81.body (Af c81 [.o (.sl 3 a),.fn 115 []]) [] (Aq c81 R)=sO a R:=by kernel_rfl
def nG (b:LD)(R:AV->Prop):Prop:=
 ∃a:Int,Runs Fs 81 [.o (D.sl 3 b),.fn 44 []] [] (aI a) []/\R (Ni a)
def AC0:=λa b=>PLift.up (by delta nG Ni;exact rfl:nG a b=_)
theorem AC8 a R:Vc Fs c43.body (Af c43 [.o (.sl 3 a),.fn 44 []]) [] (Aq c43 R)=nG a R:=by kernel_rfl
def rZ (b:LD)(R:AV->Prop):Prop:=
 ∃(c:Int->Prop)(g:Int->Nat),(rh []/\c 0)/\∀a:Int,c a->∀j:Nat->AV,Ae (Bw a b) (rn 3/\(0:Int)<=a/\∃d:D,AX b a d/\∃(h f:bA)(e:Bool),Py d h f e/\Q4 d/\∃i:Bool,Runs Fs 44 [.agg [aS h,aS f,aB e]] [] (aB i) []/\Ae i (R (.n (.int .i64 a))) (rq (.o (D.sl 3 b))/\rq (.fn 44 [])/\rq (aI (b.length:Int))/\rh []/\c (wI (a+1))/\((g (wI (a+1))):Nat)<g a)) (R (.n (.int .i64 (-1))))
def ACC:=λa b=>PLift.up (by delta rZ AX Q4 Py Bw;exact rfl:rZ a b=_)
theorem AA3 a R:Vc Fs c81.body (Af c81 [.o (.sl 3 a),.fn 44 []]) [] (Aq c81 R)=rZ a R:=by kernel_rfl
abbrev Vf (a:bA):=
 hB 1000000 [aS a]
abbrev UP (a:Int):=
 hB 1000300 [aI a]
abbrev Wg (a:Int):=
 hB 1000301 [aI a]
def jY (s:bA)(n e:Int)(R:AV->Heap->Prop):Prop:=
 Ae (e != 0) (R (.n (.int .i64 0)) [Vf s,UP n,Wg e]) (∃(b a c:Int),Runs Fs 40 [aS s,aI n,aI 1] [] (Kw b a c) []/\R (.n (.int .i64 b)) [Vf s,UP a,Wg c])
def wY:=λa b c d=>PLift.up (by delta jY Vf UP Wg Kw;exact rfl:jY a b c d=_)
theorem vR (s:bA)(n:Int)(e:Int)(R:AV->Heap->Prop):Vc Fs c39.body (Af c39 [.ptr 1000301 0,.ptr 1000000 0,.ptr 1000300 0]) [(1000000,.box [aS s]),(1000300,.box [aI n]),(1000301,.box [aI e])] (AQ c39 [(1000000,.box [aS s]),(1000300,.box [aI n]),(1000301,.box [aI e])] R)=jY s n e R:=by kernel_rfl
def jN (s:bA)(n e:Int)(R:AV->Heap->Prop):Prop:=
 Ae (e != 0) (R E4 [Vf s,UP n,Wg e]) (∃(b:bA)(a c:Int),Runs Fs 42 [aS s,aI n] [] (.tup [aS b,aI a,aI c]) []/\R (.n (.str b)) [Vf s,UP a,Wg c])
def yM:=λa b c d=>PLift.up (by delta jN EE E4 UP Wg Vf;exact rfl:jN a b c d=_)
theorem zU (s:bA)(n:Int)(e:Int)(R:AV->Heap->Prop):Vc Fs c41.body (Af c41 [.ptr 1000301 0,.ptr 1000000 0,.ptr 1000300 0]) [(1000000,.box [aS s]),(1000300,.box [aI n]),(1000301,.box [aI e])] (AQ c41 [(1000000,.box [aS s]),(1000300,.box [aI n]),(1000301,.box [aI e])] R)=jN s n e R:=by kernel_rfl
def V70 (a b:Int)(f:bA)(R:AV->Prop):Prop:=
 Ae (decide (a<1)) (KD R) (Ae (decide (a > 1099511627776)) (KD R) (Ae (decide (b<0)) (KD R) (Ae (decide (b>=8)) (KD R) (Ae (RM f) (Wy R) (∃(d:bA)(h:Int),Runs Fs 104 [aI b,aI 1] [] (.tup [aS d,aI h]) []/\0=0/\∃e:bA,tY d f e/\∃(c:bA)(g:Int),Runs Fs 56 [.agg [aI 5,aI a,aS e]] [] (.tup [aS c,aI g]) []/\R (.tup [aS c,aI g]))))))
def AFK:=λa b c d=>PLift.up (by delta V70 Wy EE E4 KD RM tY;exact rfl:V70 a b c d=_)
theorem AF9 b c a R:Vc Fs c70.body (Af c70 [aI b,aI c,aS a]) [] (Aq c70 R)=V70 b c a R:=by kernel_rfl
def V69 (b:LD)(R:AV->Prop):Prop:=
 ∃q:Bool,Runs Fs 43 [.o (D.sl 3 b),.fn 115 []] [] (aB q) []/\Ae q (KD R) (∃(l:bA)(k:Int),Runs Fs 104 [aI (b.length:Int),aI 1] [] (.tup [aS l,aI k]) []/\Ae (k != 0) (Wy R) (∃(f:bA->Int->Prop)(e:bA->Int->Nat),(rh []/\f l 0)/\∀(c:bA)(a:Int),f c a->∀u:Nat->AV,Ae (Bw a b) (rn 3/\(0:Int)<=a/\∃i:D,AX b a i/\∃(r m:bA)(j:Bool),Py i r m j/\Q4 i/\∃(h:bA)(t:Int),qA_ r h t/\Ae j (rn 0/\(rn 1\/@Eq LD [D.int .u8 1] [])/\((List.all [D.int .u8 1] Go.Mir.D.isU8):Bool)=true/\0=0/\∃d:bA,Runs Fs 108 [aL [D.str c,D.str (ByteArray.mk (List.toArray (List.map Go.Mir.byteOf [D.int .u8 1]))),D.str h]] [] (aS d) []/\Ae (RM d) (Wy R) (rq (.o (D.sl 3 b))/\rq (aI (b.length:Int))/\rh []/\f d (wI (a+1))/\((e d (wI (a+1))):Nat)<e c a)) (∃(p:bA)(s:Int),qA_ m p s/\rn 0/\(rn 1\/@Eq LD [D.int .u8 0] [])/\((List.all [D.int .u8 0] Go.Mir.D.isU8):Bool)=true/\0=0/\∃g:bA,Runs Fs 108 [aL [D.str c,D.str (ByteArray.mk (List.toArray (List.map Go.Mir.byteOf [D.int .u8 0]))),D.str h,D.str p]] [] (aS g) []/\Ae (RM g) (Wy R) (rq (.o (D.sl 3 b))/\rq (aI (b.length:Int))/\rh []/\f g (wI (a+1))/\((e g (wI (a+1))):Nat)<e c a))) (R (.tup [aS c,aI 0]))))
def AFO:=λa b=>PLift.up (by delta V69 Wy qA_ Py EE AX E4 Q4 KD RM Bw;exact rfl:V69 a b=_)
theorem AJs a R:Vc Fs c69.body (Af c69 [(.o (.sl 3 a))]) [] (Aq c69 R)=V69 a R:=by kernel_rfl
end Go.Proofs.YtjmpnbbeplgchabGreatDoor.M
