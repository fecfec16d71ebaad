import Derived.Test.YtegndijbpiccgaaGreatDoorR5Fun
namespace Go.Proofs.YtegndijbpiccgaaGreatDoor.M
set_option linter.unusedVariables false
set_option linter.unusedSimpArgs false
open Go Go.Mir
abbrev w6 (x:Int):Int:=IntKind.wrap .i64 x
abbrev Fl:=
 ByteArray.mk (List.toArray [])
abbrev Gl:AV:=
 aS Fl
abbrev Qi (a:AV->Prop):=
 a (.tup [Gl,aI 1])
abbrev rZ (a:Int):=
 ((Int.toNat a*1):Nat)<=140737488355328
abbrev Oq (a:(Nat×LD))(b:Nat):=
 ((Prod.fst a):Nat)=b
abbrev Qq (a:(Nat×LD))(b:Nat):=
 Oq a b/\rn 1
abbrev V0 (a:Nat)(b:(Nat×LD)):=
 (((a:Nat)=Prod.fst b/\rn 0)/\rn 1)/\rn 1
abbrev sU (a:(Nat×LD)):=
 rn 1\/@Eq LD (Prod.snd a) []
abbrev sD (a:(Nat×LD)):=
 ((List.all (Prod.snd a) Go.Mir.D.isU8):Bool)=true
abbrev sR (a:(Nat×LD)):=
 ByteArray.mk (List.toArray (List.map Go.Mir.byteOf (Prod.snd a)))
def V79 (h d:Int)(R:AV->Prop):Prop:=
 Ae (decide (d<1)) (Qi R) (Ae (decide (d > 6)) (Qi R) (Ae (decide (h<0)) (Qi R) ((0:Int)<=w6 (8*d)/\Ae (Int.fdiv h (2 ^ (Min.min (Int.toNat (w6 (8*d))) (Go.IntKind.bits .i64))) != 0) (Qi R) ((0:Int)<=d/\rZ d/\rn 0/\∃(i:Int->Int->Nat->Int->Int->Nat×LD->Prop)(j:Int->Int->Nat->Int->Int->Nat×LD->Nat),(rh [(7900301,.row false true 0 5 1 (List.replicate (Int.toNat d) (D.int .u8 0)))]/\i h d 0 ((List.replicate (Int.toNat d) (D.int .u8 0)).length:Int) 0 (0,List.replicate (Int.toNat d) (D.int .u8 0)))/\∀(e c:Int)(f:Nat)(g b:Int)(a:Nat×LD),i e c f g b a->∀k:Nat->AV,Ae (decide (b<g)) ((0:Int)<=w6 (8*b)/\Qq a f/\(0:Int)<=w6 (w6 (c-1)-b)/\((w6 (w6 (c-1)-b)):Int)<((Prod.snd a).length:Int)/\V0 f a/\((Int.toNat (w6 (w6 (c-1)-b))):Nat)<List.length (Prod.snd a)/\rh [(7900301,.row false true (Prod.fst a) 5 1 (List.set (Prod.snd a) (Int.toNat (w6 (w6 (c-1)-b))) (D.int .u8 (IntKind.wrap .u8 (Int.fdiv e (2 ^ (Min.min (Int.toNat (w6 (8*b))) (Go.IntKind.bits .i64))))))))]/\i e c f g (w6 (b+1)) (Prod.fst a,List.set (Prod.snd a) (Int.toNat (w6 (w6 (c-1)-b))) (D.int .u8 (IntKind.wrap .u8 (Int.fdiv e (2 ^ (Min.min (Int.toNat (w6 (8*b))) (Go.IntKind.bits .i64)))))))/\((j e c f g (w6 (b+1)) (Prod.fst a,List.set (Prod.snd a) (Int.toNat (w6 (w6 (c-1)-b))) (D.int .u8 (IntKind.wrap .u8 (Int.fdiv e (2 ^ (Min.min (Int.toNat (w6 (8*b))) (Go.IntKind.bits .i64)))))))):Nat)<j e c f g b a) (Oq a f/\sU a/\sD a/\R (.tup [aS (sR a),aI 0]))))))
def ACV:=λa b c=>PLift.up (by delta V79 V0 Qi Fl sU Qq Oq Gl sD sR rZ;exact rfl:V79 a b c=_)
theorem ADt a b R:Vc Fs c79.body (Af c79 [aI a,aI b]) [] (Av c79 R)=V79 a b R:=by kernel_rfl
def V83 (b:LD)(R:AV->Prop):Prop:=
 ∃a:bA,Runs Fs 128 [aL b,aS Fl] [] (aS a) []/\R (.n (.str a))
def AGA:=λa b=>PLift.up (by delta V83 Fl;exact rfl:V83 a b=_)
theorem AFm a R:Vc Fs c83.body (Af c83 [aL a]) [] (Av c83 R)=V83 a R:=by kernel_rfl
abbrev sV (a:AV->Prop):=
 a (.tup [Gl,aI 2])
def V80 (a:bA)(R:AV->Prop):Prop:=
 Ae (decide ((((ByteArray.size a):Nat):Int) > 65535)) (sV R) (∃(b:bA)(c:Int),Runs Fs 79 [aI (((ByteArray.size a):Nat):Int),aI 2] [] (.tup [aS b,aI c]) []/\0=0/\∃d:bA,Runs Fs 83 [aL [D.str b,D.str a]] [] (aS d) []/\R (.tup [aS d,aI c]))
def AEy:=λa b=>PLift.up (by delta V80 Fl sV Gl;exact rfl:V80 a b=_)
theorem AFK a R:Vc Fs c80.body (Af c80 [aS a]) [] (Av c80 R)=V80 a R:=by kernel_rfl
abbrev qm_:=
 aS (ByteArray.mk (List.toArray [0]))
def V81 (b:bA)(R:AV->Prop):Prop:=
 ∃a:bA,Runs Fs 126 [aS b,qm_] [] (aS a) []/\R (.n (.str a))
def ADL:=λa b=>PLift.up (by delta V81 qm_;exact rfl:V81 a b=_)
theorem AC3 a R:Vc Fs c81.body (Af c81 [aS a]) [] (Av c81 R)=V81 a R:=by kernel_rfl
abbrev VX (a:bA):=
 Array.toList (ByteArray.data a)
abbrev qo_ (a:Int)(b:bA)(c:AV->Prop):=
 (0:Int)<=a/\(a:Int)<=(((ByteArray.size b):Nat):Int)/\c (.n (.str (ByteArray.extract b 0 (Int.toNat a))))
def nN (f:bA)(R:AV->Prop):Prop:=
 ∃(c:bA->Int->Prop)(d:bA->Int->Nat),(rh []/\c f (((ByteArray.size f):Nat):Int))/\∀(b:bA)(a:Int),c b a->∀g:Nat->AV,Ae (decide (a > 0)) ((0:Int)<=w6 (a-1)/\∃e:UInt8,((GetElem?.getElem? (VX b) (Int.toNat (w6 (a-1)))):Option UInt8)=some e/\Ae ((((UInt8.toNat e):Nat):Int)==0) (rh []/\c b (w6 (a-1))/\((d b (w6 (a-1))):Nat)<d b a) (qo_ a b R)) (qo_ a b R)
def ACl:=λa b=>PLift.up (by delta nN VX qo_;exact rfl:nN a b=_)
theorem uS a R:Vc Fs c103.body (Af c103 [aS a]) [] (Av c103 R)=nN a R:=by kernel_rfl
abbrev ZZ (a:Int)(b:bA):=
 a-(((ByteArray.size b):Nat):Int)
def nQ (b:bA)(a:Int)(R:AV->Prop):Prop:=
 Ae (decide (a<0)) (Qi R) (Ae (decide (a > 4096)) (Qi R) (Ae (decide ((((ByteArray.size b):Nat):Int) > a)) (sV R) (∃c:bA,Runs Fs 187 [qm_,aI (w6 (ZZ a b))] [] (aS c) []/\0=0/\∃d:bA,Runs Fs 83 [aL [D.str b,D.str c]] [] (aS d) []/\R (.tup [aS d,aI 0]))))
def AAE:=λa b c=>PLift.up (by delta nQ qm_ Qi Fl Gl ZZ sV;exact rfl:nQ a b c=_)
theorem vU a b R:Vc Fs c156.body (Af c156 [aS a,aI b]) [] (Av c156 R)=nQ a b R:=by kernel_rfl
def jF (a:bA)(b:Int)(R:AV->Prop):Prop:=
 Ae (decide (b<0)) (Qi R) (Ae (decide (b > 4096)) (Qi R) (Ae (decide ((((ByteArray.size a):Nat):Int) > b)) (sV R) ((0:Int)<=w6 (ZZ b a)/\((Int.toNat (w6 (ZZ b a))*1):Nat)<=140737488355328/\rn 0/\(rn 1\/@Eq LD (List.replicate (Int.toNat (w6 (ZZ b a))) (D.int .u8 0)) [])/\((List.all (List.replicate (Int.toNat (w6 (ZZ b a))) (D.int .u8 0)) Go.Mir.D.isU8):Bool)=true/\((((ByteArray.size a+ByteArray.size (ByteArray.mk (List.toArray (List.map Go.Mir.byteOf (List.replicate (Int.toNat (w6 (ZZ b a))) (D.int .u8 0)))))):Nat):Int):Int)<=9223372036854775807/\R (.tup [aS (a++ByteArray.mk (List.toArray (List.map Go.Mir.byteOf (List.replicate (Int.toNat (w6 (ZZ b a))) (D.int .u8 0))))),aI 0]))))
def tE:=λa b c=>PLift.up (by delta jF Qi Fl Gl ZZ sV;exact rfl:jF a b c=_)
theorem ABP a b R:Vc Fs c138.body (Af c138 [aS a,aI b]) [] (Av c138 R)=jF a b R:=by kernel_rfl
abbrev ZO (a:AV->Prop):=
 a (.tup [aI 0,aI 0,aI 1])
abbrev bZ (a:bA)(b:Int):=
 (((ByteArray.size a):Nat):Int)-b
abbrev qs_ (a:AV->Prop):=
 a (.tup [aI 0,aI 0,aI 3])
abbrev sQ:=
 Int->LD->Int->Int->Prop
abbrev sC:=
 Int->LD->Int->Int->Nat
abbrev AW (b:LD)(c:Int)(a:D):=
 (b[Int.toNat c]?=some a)
def jK (g:bA)(a b:Int)(R:AV->Prop):Prop:=
 Ae (decide (b<1)) (ZO R) (Ae (decide (b > 6)) (ZO R) (Ae (decide (a<0)) (ZO R) (Ae (decide (a > (((ByteArray.size g):Nat):Int))) (ZO R) (Ae (decide (w6 (bZ g a)<b)) (qs_ R) ((0:Int)<=w6 (a+b)/\((w6 (a+b)):Int)<=(((ByteArray.size g):Nat):Int)/\(0:Int)<=a/\(a:Int)<=(((Int.toNat (w6 (a+b))):Nat):Int)/\∃(j:Int->Int->sQ)(l:Int->Int->sC),(rh []/\j a b 0 (Go.Mir.bytesD (ByteArray.extract g (Int.toNat a) (Int.toNat (w6 (a+b))))) ((Go.Mir.bytesD (ByteArray.extract g (Int.toNat a) (Int.toNat (w6 (a+b))))).length:Int) 0)/\∀(d e h:Int)(i:LD)(f c:Int),j d e h i f c->∀o:Nat->AV,Ae (decide (c<f)) (rn 1/\(0:Int)<=c/\∃m:D,AW i c m/\∃k:Int,((D.cells m)[0]?=some (D.int .u8 k))/\(0:Int)<=8/\rh []/\j d e (w6 (((BitVec.toNat (HOr.hOr (BitVec.ofInt (Go.IntKind.bits .i64) (w6 (h*(2 ^ (Min.min (Int.toNat 8) (Go.IntKind.bits .i64)))))) (BitVec.ofInt (Go.IntKind.bits .i64) (w6 k)))):Nat):Int)) i f (w6 (c+1))/\((l d e (w6 (((BitVec.toNat (HOr.hOr (BitVec.ofInt (Go.IntKind.bits .i64) (w6 (h*(2 ^ (Min.min (Int.toNat 8) (Go.IntKind.bits .i64)))))) (BitVec.ofInt (Go.IntKind.bits .i64) (w6 k)))):Nat):Int)) i f (w6 (c+1))):Nat)<l d e h i f c) (R (.tup [aI h,aI (w6 (d+e)),aI 0])))))))
def AAT:=λa b c d=>PLift.up (by delta jK ZO qs_ AW sQ bZ sC;exact rfl:jK a b c d=_)
theorem ABq b c a R:Vc Fs c134.body (Af c134 [aS b,aI c,aI a]) [] (Av c134 R)=jK b c a R:=by kernel_rfl
abbrev gN:=
 Int->Int->Int->Prop
def lS (i:bA)(f g:Int)(R:AV->Prop):Prop:=
 Ae (decide (g<1)) (ZO R) (Ae (decide (g > 6)) (ZO R) (Ae (decide (f<0)) (ZO R) (Ae (decide (f > (((ByteArray.size i):Nat):Int))) (ZO R) (Ae (decide (w6 (bZ i f)<g)) (qs_ R) (∃(j:bA->Int->gN)(k:bA->Int->Int->Int->Int->Nat),(rh []/\j i f g 0 0)/\∀(d:bA)(a c e b:Int),j d a c e b->∀l:Nat->AV,Ae (decide (b<c)) ((0:Int)<=w6 (a+b)/\∃h:UInt8,((GetElem?.getElem? (VX d) (Int.toNat (w6 (a+b)))):Option UInt8)=some h/\rh []/\j d a c (w6 (w6 (e*256)+w6 (((UInt8.toNat h):Nat):Int))) (w6 (b+1))/\((k d a c (w6 (w6 (e*256)+w6 (((UInt8.toNat h):Nat):Int))) (w6 (b+1))):Nat)<k d a c e b) (R (.tup [aI e,aI (w6 (a+c)),aI 0])))))))
def wF:=λa b c d=>PLift.up (by delta lS VX gN ZO qs_ bZ;exact rfl:lS a b c d=_)
theorem tZ b c a R:Vc Fs c139.body (Af c139 [aS b,aI c,aI a]) [] (Av c139 R)=lS b c a R:=by kernel_rfl
def lV (r:Int)(o:bA)(R:AV->Prop):Prop:=
 ∃(j:sQ)(p:sC),(rh []/\j (IntKind.wrap .u32 (((BitVec.toNat (HXor.hXor (BitVec.ofInt (Go.IntKind.bits .u32) (Go.IntKind.max .u32)) (BitVec.ofInt (Go.IntKind.bits .u32) r))):Nat):Int)) (Go.Mir.bytesD o) ((Go.Mir.bytesD o).length:Int) 0)/\∀(g:Int)(h:LD)(i d:Int),j g h i d->∀s:Nat->AV,Ae (decide (d<i)) (rn 1/\(0:Int)<=d/\∃l:D,AW h d l/\∃m:Int,((D.cells l)[0]?=some (D.int .u8 m))/\∃(k:Int->LD->gN)(q:Int->LD->Int->Int->Int->Nat),(rh []/\k (IntKind.wrap .u32 (((BitVec.toNat (HXor.hXor (BitVec.ofInt (Go.IntKind.bits .u32) g) (BitVec.ofInt (Go.IntKind.bits .u32) (IntKind.wrap .u32 m)))):Nat):Int)) h i d 0)/\∀(a:Int)(b:LD)(e c f:Int),k a b e c f->∀t:Nat->AV,Ae (decide (f<8)) ((0:Int)<=1/\rh []/\k (IntKind.wrap .u32 (((BitVec.toNat (HXor.hXor (BitVec.ofInt (Go.IntKind.bits .u32) (Int.fdiv a (2 ^ (Min.min (Int.toNat 1) (Go.IntKind.bits .u32))))) (BitVec.ofInt (Go.IntKind.bits .u32) (IntKind.wrap .u32 (((BitVec.toNat (HAnd.hAnd (BitVec.ofInt (Go.IntKind.bits .u32) 2197175160) (BitVec.ofInt (Go.IntKind.bits .u32) (IntKind.wrap .u32 (0-(IntKind.wrap .u32 (((BitVec.toNat (HAnd.hAnd (BitVec.ofInt (Go.IntKind.bits .u32) a) (BitVec.ofInt (Go.IntKind.bits .u32) 1))):Nat):Int))))))):Nat):Int))))):Nat):Int)) b e c (w6 (f+1))/\((q (IntKind.wrap .u32 (((BitVec.toNat (HXor.hXor (BitVec.ofInt (Go.IntKind.bits .u32) (Int.fdiv a (2 ^ (Min.min (Int.toNat 1) (Go.IntKind.bits .u32))))) (BitVec.ofInt (Go.IntKind.bits .u32) (IntKind.wrap .u32 (((BitVec.toNat (HAnd.hAnd (BitVec.ofInt (Go.IntKind.bits .u32) 2197175160) (BitVec.ofInt (Go.IntKind.bits .u32) (IntKind.wrap .u32 (0-(IntKind.wrap .u32 (((BitVec.toNat (HAnd.hAnd (BitVec.ofInt (Go.IntKind.bits .u32) a) (BitVec.ofInt (Go.IntKind.bits .u32) 1))):Nat):Int))))))):Nat):Int))))):Nat):Int)) b e c (w6 (f+1))):Nat)<q a b e c f) (rh []/\j a b e (w6 (c+1))/\((p a b e (w6 (c+1))):Nat)<p g h i d)) (R (.n (D.int .u32 (IntKind.wrap .u32 (((BitVec.toNat (HXor.hXor (BitVec.ofInt (Go.IntKind.bits .u32) (Go.IntKind.max .u32)) (BitVec.ofInt (Go.IntKind.bits .u32) g))):Nat):Int)))))
def AB6:=λa b c=>PLift.up (by delta lV AW gN sQ sC;exact rfl:lV a b c=_)
theorem tX a b R:Vc Fs c163.body (Af c163 [(.n (.int .u32 a)),aS b]) [] (Av c163 R)=lV a b R:=by kernel_rfl
def iB (m:Int)(o:bA)(R:AV->Prop):Prop:=
 ∃(j:bA->Int->Int->Prop)(k:bA->Int->Int->Nat),(rh []/\j o (IntKind.wrap .u32 (4294967295-m)) 0)/\∀(f:bA)(g i:Int),j f g i->∀q:Nat->AV,Ae (decide (i<(((ByteArray.size f):Nat):Int))) (∃(h:bA->gN)(e:bA->Int->Int->Int->Nat),(rh []/\h f g i 0)/\∀(b:bA)(c a d:Int),h b c a d->∀p:Nat->AV,Ae (decide (d<8)) ((0:Int)<=a/\∃l:UInt8,((GetElem?.getElem? (VX b) (Int.toNat a)):Option UInt8)=some l/\(0:Int)<=IntKind.wrap .u64 d/\(2:Int)≠0/\(2:Int)≠0/\(2:Int)≠0/\Ae (Int.tmod c 2 != Int.tmod (Int.fdiv (IntKind.wrap .u32 (((UInt8.toNat l):Nat):Int)) (2 ^ (Min.min (Int.toNat (IntKind.wrap .u64 d)) (Go.IntKind.bits .u32)))) 2) (rh []/\h b (IntKind.wrap .u32 (((BitVec.toNat (HXor.hXor (BitVec.ofInt (Go.IntKind.bits .u32) (IntKind.wrap .u32 (Int.tdiv c 2))) (BitVec.ofInt (Go.IntKind.bits .u32) 2197175160))):Nat):Int)) a (w6 (d+1))/\((e b (IntKind.wrap .u32 (((BitVec.toNat (HXor.hXor (BitVec.ofInt (Go.IntKind.bits .u32) (IntKind.wrap .u32 (Int.tdiv c 2))) (BitVec.ofInt (Go.IntKind.bits .u32) 2197175160))):Nat):Int)) a (w6 (d+1))):Nat)<e b c a d) (rh []/\h b (IntKind.wrap .u32 (Int.tdiv c 2)) a (w6 (d+1))/\((e b (IntKind.wrap .u32 (Int.tdiv c 2)) a (w6 (d+1))):Nat)<e b c a d)) (rh []/\j b c (w6 (a+1))/\((k b c (w6 (a+1))):Nat)<k f g i)) (R (.n (D.int .u32 (IntKind.wrap .u32 (4294967295-g)))))
def vY:=λa b c=>PLift.up (by delta iB VX gN;exact rfl:iB a b c=_)
theorem vS a b R:Vc Fs c193.body (Af c193 [(.n (.int .u32 a)),aS b]) [] (Av c193 R)=iB a b R:=by kernel_rfl
abbrev Ci (a:D)(b:bA):=
 ((D.cells a)[0]?=some (D.str b))
def iL (i:LD)(R:AV->Prop):Prop:=
 ∃(e:sQ)(j:sC),(rh []/\e 0 i (i.length:Int) 0)/\∀(d:Int)(b:LD)(c a:Int),e d b c a->∀k:Nat->AV,Ae (decide (a<c)) (rn 1/\(0:Int)<=a/\∃g:D,AW b a g/\∃h:bA,Ci g h/\∃f:Int,Runs Fs 163 [.n (D.int .u32 d),aS h] [] (.n (D.int .u32 f)) []/\rh []/\e f b c (w6 (a+1))/\((j f b c (w6 (a+1))):Nat)<j d b c a) (R (.n (D.int .u32 d)))
def zU:=λa b=>PLift.up (by delta iL Ci sQ AW sC;exact rfl:iL a b=_)
theorem ABB a R:Vc Fs c127.body (Af c127 [aL a]) [] (Av c127 R)=iL a R:=by kernel_rfl
def AEK (b:bA)(R:AV->Prop):Prop:=
 ∃a:Int,Runs Fs 193 [.n (D.int .u32 0),aS b] [] (.n (D.int .u32 a)) []/\R (.n (D.int .u32 a))
theorem wG a R:Vc Fs c168.body (Af c168 [aS a]) [] (Av c168 R)=AEK a R:=by kernel_rfl
def V82 (b:bA)(R:AV->Prop):Prop:=
 0=0/\∃a:Int,Runs Fs 127 [aL [D.str b]] [] (.n (D.int .u32 a)) []/\(0:Int)<=8/\(0:Int)<=16/\(0:Int)<=24/\rn 0/\(rn 1\/@Eq LD [D.int .u8 (IntKind.wrap .u8 a),D.int .u8 (IntKind.wrap .u8 (Int.fdiv a (2 ^ (Min.min (Int.toNat 8) (Go.IntKind.bits .u32))))),D.int .u8 (IntKind.wrap .u8 (Int.fdiv a (2 ^ (Min.min (Int.toNat 16) (Go.IntKind.bits .u32))))),D.int .u8 (IntKind.wrap .u8 (Int.fdiv a (2 ^ (Min.min (Int.toNat 24) (Go.IntKind.bits .u32)))))] [])/\((List.all [D.int .u8 (IntKind.wrap .u8 a),D.int .u8 (IntKind.wrap .u8 (Int.fdiv a (2 ^ (Min.min (Int.toNat 8) (Go.IntKind.bits .u32))))),D.int .u8 (IntKind.wrap .u8 (Int.fdiv a (2 ^ (Min.min (Int.toNat 16) (Go.IntKind.bits .u32))))),D.int .u8 (IntKind.wrap .u8 (Int.fdiv a (2 ^ (Min.min (Int.toNat 24) (Go.IntKind.bits .u32)))))] Go.Mir.D.isU8):Bool)=true/\0=0/\∃c:bA,Runs Fs 83 [aL [D.str b,D.str (ByteArray.mk (List.toArray (List.map Go.Mir.byteOf [D.int .u8 (IntKind.wrap .u8 a),D.int .u8 (IntKind.wrap .u8 (Int.fdiv a (2 ^ (Min.min (Int.toNat 8) (Go.IntKind.bits .u32))))),D.int .u8 (IntKind.wrap .u8 (Int.fdiv a (2 ^ (Min.min (Int.toNat 16) (Go.IntKind.bits .u32))))),D.int .u8 (IntKind.wrap .u8 (Int.fdiv a (2 ^ (Min.min (Int.toNat 24) (Go.IntKind.bits .u32)))))])))]] [] (aS c) []/\R (.n (.str c))
theorem AEd a R:Vc Fs c82.body (Af c82 [aS a]) [] (Av c82 R)=V82 a R:=by kernel_rfl
def ACH (b:bA)(R:AV->Prop):Prop:=
 ∃a:Int,Runs Fs 168 [aS b] [] (.n (D.int .u32 a)) []/\(256:Int)≠0/\(256:Int)≠0/\(256:Int)≠0/\(65536:Int)≠0/\(256:Int)≠0/\(16777216:Int)≠0/\rn 0/\(rn 1\/@Eq LD [D.int .u8 (IntKind.wrap .u8 (Int.tmod a 256)),D.int .u8 (IntKind.wrap .u8 (Int.tmod (IntKind.wrap .u32 (Int.tdiv a 256)) 256)),D.int .u8 (IntKind.wrap .u8 (Int.tmod (IntKind.wrap .u32 (Int.tdiv a 65536)) 256)),D.int .u8 (IntKind.wrap .u8 (IntKind.wrap .u32 (Int.tdiv a 16777216)))] [])/\((List.all [D.int .u8 (IntKind.wrap .u8 (Int.tmod a 256)),D.int .u8 (IntKind.wrap .u8 (Int.tmod (IntKind.wrap .u32 (Int.tdiv a 256)) 256)),D.int .u8 (IntKind.wrap .u8 (Int.tmod (IntKind.wrap .u32 (Int.tdiv a 65536)) 256)),D.int .u8 (IntKind.wrap .u8 (IntKind.wrap .u32 (Int.tdiv a 16777216)))] Go.Mir.D.isU8):Bool)=true/\((((ByteArray.size b+ByteArray.size (ByteArray.mk (List.toArray (List.map Go.Mir.byteOf [D.int .u8 (IntKind.wrap .u8 (Int.tmod a 256)),D.int .u8 (IntKind.wrap .u8 (Int.tmod (IntKind.wrap .u32 (Int.tdiv a 256)) 256)),D.int .u8 (IntKind.wrap .u8 (Int.tmod (IntKind.wrap .u32 (Int.tdiv a 65536)) 256)),D.int .u8 (IntKind.wrap .u8 (IntKind.wrap .u32 (Int.tdiv a 16777216)))])))):Nat):Int):Int)<=9223372036854775807/\R (.n (.str (b++ByteArray.mk (List.toArray (List.map Go.Mir.byteOf [D.int .u8 (IntKind.wrap .u8 (Int.tmod a 256)),D.int .u8 (IntKind.wrap .u8 (Int.tmod (IntKind.wrap .u32 (Int.tdiv a 256)) 256)),D.int .u8 (IntKind.wrap .u8 (Int.tmod (IntKind.wrap .u32 (Int.tdiv a 65536)) 256)),D.int .u8 (IntKind.wrap .u8 (IntKind.wrap .u32 (Int.tdiv a 16777216)))])))))
theorem vB a R:Vc Fs c131.body (Af c131 [aS a]) [] (Av c131 R)=ACH a R:=by kernel_rfl
abbrev qy_ (b c:Int)(a:AV->Prop)(d:bA):=
 Ae (decide (b>=1)) (Ae (decide (b<=5)) (Ae (decide (c>=0)) (Ae (decide (c<=1099511627776)) (a (.n (.bool (decide ((((ByteArray.size d):Nat):Int)<=4000))))) (a (.n (.bool false)))) (a (.n (.bool false)))) (a (.n (.bool false)))) (a (.n (.bool false)))
def V78 (a c:Int)(b:bA)(R:AV->Prop):Prop:=
 qy_ a c R b
def AET:=λa b c d=>PLift.up (by delta V78 qy_;exact rfl:V78 a b c d=_)
theorem AEi a c b R:Vc Fs c78.body (Af c78 [(.agg [aI a,aI c,aS b])]) [] (Av c78 R)=V78 a c b R:=by kernel_rfl
def lI (a c:Int)(b:bA)(R:AV->Prop):Prop:=
 qy_ a c R b
def wD:=λa b c d=>PLift.up (by delta lI qy_;exact rfl:lI a b c d=_)
theorem ACi a c b R:Vc Fs c140.body (Af c140 [(.agg [aI a,aI c,aS b])]) [] (Av c140 R)=lI a c b R:=by kernel_rfl
abbrev fN (a b:bA):=
 Runs Fs 81 [aS a] [] (aS b) []
def V36 (f d:Int)(j:bA)(R:AV->Prop):Prop:=
 ∃e:Bool,Runs Fs 78 [.agg [aI f,aI d,aS j]] [] (aB e) []/\Ae (Bool.not e) (Qi R) (∃(g:bA)(k:Int),Runs Fs 79 [aI f,aI 1] [] (.tup [aS g,aI k]) []/\∃(b:bA)(m:Int),Runs Fs 79 [aI d,aI 6] [] (.tup [aS b,aI m]) []/\∃(h:bA)(l:Int),Runs Fs 80 [aS j] [] (.tup [aS h,aI l]) []/\0=0/\∃a:bA,Runs Fs 83 [aL [D.str g,D.str b,D.str h]] [] (aS a) []/\∃c:bA,Runs Fs 82 [aS a] [] (aS c) []/\∃i:bA,fN c i/\R (.tup [aS i,aI 0]))
def AHf:=λa b c d=>PLift.up (by delta V36 Fl fN Qi Gl;exact rfl:V36 a b c d=_)
theorem AGQ a c b R:Vc Fs c36.body (Af c36 [(.agg [aI a,aI c,aS b])]) [] (Av c36 R)=V36 a c b R:=by kernel_rfl
abbrev fX (a:bA):=
 (((ByteArray.size a):Nat):Int)-4
abbrev KM (a b:bA):=
 ByteArray.toList a==ByteArray.toList b
def nH (a:bA)(R:AV->Prop):Prop:=
 Ae (decide (w6 (fX a)<0)) (R (.tup [Gl,aI 3])) ((0:Int)<=w6 (fX a)/\((w6 (fX a)):Int)<=(((ByteArray.size a):Nat):Int)/\∃b:bA,Runs Fs 82 [aS (ByteArray.extract a 0 (Int.toNat (w6 (fX a))))] [] (aS b) []/\Ae (Bool.not (KM b a)) (R (.tup [Gl,aI 41])) ((0:Int)<=w6 (fX a)/\((w6 (fX a)):Int)<=(((ByteArray.size a):Nat):Int)/\R (.tup [aS (ByteArray.extract a 0 (Int.toNat (w6 (fX a)))),aI 0])))
def yX:=λa b=>PLift.up (by delta nH Fl KM fX Gl;exact rfl:nH a b=_)
theorem vN a R:Vc Fs c169.body (Af c169 [aS a]) [] (Av c169 R)=nH a R:=by kernel_rfl
abbrev ZQ:AV:=
 .agg [aI 0,aI 0,Gl]
abbrev MG (b c a:Int):AV:=
 .tup [aI b,aI c,aI a]
abbrev fI (a:AV->Prop):=
 a (.tup [ZQ,aI 4])
abbrev fJ (a:AV->Prop):=
 a (.tup [ZQ,aI 40])
abbrev gH (a:bA):=
 Bool.not (ByteArray.toList a==ByteArray.toList Fl)
def qC (p:bA)(R:AV->Prop):Prop:=
 ∃(c:bA)(i:Int),Runs Fs 156 [aS p,aI 4096] [] (.tup [aS c,aI i]) []/\Ae (i != 0) (R (.tup [ZQ,aI 1])) (∃(a k m:Int),Runs Fs 134 [aS c,aI 7,aI 2] [] (MG a k m) []/\Ae (decide (a > 4000)) (fI R) ((0:Int)<=w6 (w6 (9+a)+4)/\((w6 (w6 (9+a)+4)):Int)<=(((ByteArray.size c):Nat):Int)/\∃(b:bA)(e:Int),Runs Fs 169 [aS (ByteArray.extract c 0 (Int.toNat (w6 (w6 (9+a)+4))))] [] (.tup [aS b,aI e]) []/\Ae (e != 0) (R (.tup [ZQ,aI e])) (∃(d g o:Int),Runs Fs 134 [aS b,aI 0,aI 1] [] (MG d g o) []/\∃(f q l:Int),Runs Fs 134 [aS b,aI g,aI 6] [] (MG f q l) []/\(0:Int)<=9/\(9:Int)<=(((ByteArray.size b):Nat):Int)/\Ae (decide (d<1)) (fJ R) (Ae (decide (d > 5)) (fJ R) (∃j:Bool,Runs Fs 78 [.agg [aI d,aI f,aS (ByteArray.extract b (Int.toNat 9) (ByteArray.size b))]] [] (aB j) []/\Ae (Bool.not j) (fI R) ((0:Int)<=w6 (w6 (9+a)+4)/\((w6 (w6 (9+a)+4)):Int)<=(((ByteArray.size c):Nat):Int)/\∃h:bA,Runs Fs 81 [aS (ByteArray.extract c (Int.toNat (w6 (w6 (9+a)+4))) (ByteArray.size c))] [] (aS h) []/\Ae (gH h) (fI R) (R (.tup [.agg [aI d,aI f,aS (ByteArray.extract b (Int.toNat 9) (ByteArray.size b))],aI 0]))))))))
def ABy:=λa b=>PLift.up (by delta qC gH Fl Gl MG fI fJ ZQ;exact rfl:qC a b=_)
theorem tH a R:Vc Fs c135.body (Af c135 [aS a]) [] (Av c135 R)=qC a R:=by kernel_rfl
abbrev rW (a:bA):=
 decide ((((ByteArray.size a):Nat):Int) > 4096)
def V95 (f:bA)(R:AV->Prop):Prop:=
 Ae (rW f) (R (.tup [ZQ,aI 1])) (∃(c:bA)(l:Int),Runs Fs 138 [aS f,aI 4096] [] (.tup [aS c,aI l]) []/\(0:Int)<=7/\∃a:UInt8,((GetElem?.getElem? (VX c) (Int.toNat 7)):Option UInt8)=some a/\(0:Int)<=8/\∃b:UInt8,((GetElem?.getElem? (VX c) (Int.toNat 8)):Option UInt8)=some b/\Ae (decide (w6 (w6 (256*w6 (((UInt8.toNat a):Nat):Int))+w6 (((UInt8.toNat b):Nat):Int)) > 4000)) (fI R) ((0:Int)<=w6 (9+w6 (w6 (256*w6 (((UInt8.toNat a):Nat):Int))+w6 (((UInt8.toNat b):Nat):Int)))/\((w6 (9+w6 (w6 (256*w6 (((UInt8.toNat a):Nat):Int))+w6 (((UInt8.toNat b):Nat):Int)))):Int)<=(((ByteArray.size c):Nat):Int)/\∃g:bA,Runs Fs 131 [aS (ByteArray.extract c 0 (Int.toNat (w6 (9+w6 (w6 (256*w6 (((UInt8.toNat a):Nat):Int))+w6 (((UInt8.toNat b):Nat):Int))))))] [] (aS g) []/\(0:Int)<=w6 (13+w6 (w6 (256*w6 (((UInt8.toNat a):Nat):Int))+w6 (((UInt8.toNat b):Nat):Int)))/\((w6 (13+w6 (w6 (256*w6 (((UInt8.toNat a):Nat):Int))+w6 (((UInt8.toNat b):Nat):Int)))):Int)<=(((ByteArray.size c):Nat):Int)/\Ae (Bool.not (ByteArray.toList g==ByteArray.toList (ByteArray.extract c 0 (Int.toNat (w6 (13+w6 (w6 (256*w6 (((UInt8.toNat a):Nat):Int))+w6 (((UInt8.toNat b):Nat):Int)))))))) (R (.tup [ZQ,aI 41])) (∃(e k j:Int),Runs Fs 139 [aS c,aI 1,aI 6] [] (MG e k j) []/\(0:Int)<=0/\∃d:UInt8,((GetElem?.getElem? (VX c) (Int.toNat 0)):Option UInt8)=some d/\(0:Int)<=w6 (9+w6 (w6 (256*w6 (((UInt8.toNat a):Nat):Int))+w6 (((UInt8.toNat b):Nat):Int)))/\((w6 (9+w6 (w6 (256*w6 (((UInt8.toNat a):Nat):Int))+w6 (((UInt8.toNat b):Nat):Int)))):Int)<=(((ByteArray.size c):Nat):Int)/\(0:Int)<=9/\(9:Int)<=(((Int.toNat (w6 (9+w6 (w6 (256*w6 (((UInt8.toNat a):Nat):Int))+w6 (((UInt8.toNat b):Nat):Int))))):Nat):Int)/\Ae (decide (w6 (((UInt8.toNat d):Nat):Int)<1)) (fJ R) (Ae (decide (w6 (((UInt8.toNat d):Nat):Int) > 5)) (fJ R) (∃i:Bool,Runs Fs 140 [.agg [aI (w6 (((UInt8.toNat d):Nat):Int)),aI e,aS (ByteArray.extract c (Int.toNat 9) (Int.toNat (w6 (9+w6 (w6 (256*w6 (((UInt8.toNat a):Nat):Int))+w6 (((UInt8.toNat b):Nat):Int))))))]] [] (aB i) []/\Ae (Bool.not i) (fI R) ((0:Int)<=w6 (13+w6 (w6 (256*w6 (((UInt8.toNat a):Nat):Int))+w6 (((UInt8.toNat b):Nat):Int)))/\((w6 (13+w6 (w6 (256*w6 (((UInt8.toNat a):Nat):Int))+w6 (((UInt8.toNat b):Nat):Int)))):Int)<=(((ByteArray.size c):Nat):Int)/\∃h:bA,Runs Fs 103 [aS (ByteArray.extract c (Int.toNat (w6 (13+w6 (w6 (256*w6 (((UInt8.toNat a):Nat):Int))+w6 (((UInt8.toNat b):Nat):Int))))) (ByteArray.size c))] [] (aS h) []/\Ae (gH h) (fI R) (R (.tup [.agg [aI (w6 (((UInt8.toNat d):Nat):Int)),aI e,aS (ByteArray.extract c (Int.toNat 9) (Int.toNat (w6 (9+w6 (w6 (256*w6 (((UInt8.toNat a):Nat):Int))+w6 (((UInt8.toNat b):Nat):Int))))))],aI 0]))))))))
def AHc:=λa b=>PLift.up (by delta V95 rW gH VX Fl Gl MG fI fJ ZQ;exact rfl:V95 a b=_)
theorem AEn a R:Vc Fs c95.body (Af c95 [aS a]) [] (Av c95 R)=V95 a R:=by kernel_rfl
def pK (h:LD)(j:Int)(R:AV->Prop):Prop:=
 ∃(e:LD->gN)(i:LD->Int->Int->Int->Nat),(rh []/\e h j (h.length:Int) 0)/\∀(b:LD)(c d a:Int),e b c d a->∀k:Nat->AV,Ae (decide (a<d)) (rn 1/\(0:Int)<=a/\∃f:D,AW b a f/\∃g:Int,((D.cells f)[0]?=some (D.int .i64 g))/\Ae (c==g) (R (.n (.int .i64 a))) (rh []/\e b c d (w6 (a+1))/\((i b c d (w6 (a+1))):Nat)<i b c d a)) (R (.n (.int .i64 (-1))))
def wL:=λa b c=>PLift.up (by delta pK AW gN;exact rfl:pK a b c=_)
theorem ACe a b R:Vc Fs c170.body (Af c170 [aL a,aI b]) [] (Av c170 R)=pK a b R:=by kernel_rfl
abbrev Rw (a:Int):AV:=
 aB (decide (a>=0))
def qQ (b:LD)(c:Int)(R:AV->Prop):Prop:=
 ∃a:Int,Runs Fs 170 [aL b,aI c] [] (aI a) []/\R (Rw a)
def ABV:=λa b c=>PLift.up (by delta qQ Rw;exact rfl:qQ a b c=_)
theorem xM a b R:Vc Fs c136.body (Af c136 [aL a,aI b]) [] (Av c136 R)=qQ a b R:=by kernel_rfl
abbrev VU (b d:Int)(a:bA)(c:Int):AV:=
 .tup [.agg [aI b,aI d,aS a],aI c]
def V90 (f:bA)(g:LD)(R:AV->Prop):Prop:=
 ∃(b d:Int)(c:bA)(a:Int),Runs Fs 135 [aS f] [] (VU b d c a) []/\Ae (a != 0) (R (.tup [ZQ,aI a])) (∃e:Bool,Runs Fs 136 [aL g,aI b] [] (aB e) []/\Ae (Bool.not e) (fJ R) (R (.tup [.agg [aI b,aI d,aS c],aI 0])))
def sX:=λa b c=>PLift.up (by delta V90 Fl VU Gl fJ ZQ;exact rfl:V90 a b c=_)
theorem AAU a b R:Vc Fs c90.body (Af c90 [aS a,aL b]) [] (Av c90 R)=V90 a b R:=by kernel_rfl
abbrev qK_ (e:Int)(d:AV->Prop)(c:bA)(a b:Int):=
 Ae (e != 0) (d (.tup [Gl,aI 0,aI e])) (Ae (decide (w6 (bZ c a)<b)) (d (.tup [Gl,aI 0,aI 3])) ((0:Int)<=w6 (a+b)/\((w6 (a+b)):Int)<=(((ByteArray.size c):Nat):Int)/\(0:Int)<=a/\(a:Int)<=(((Int.toNat (w6 (a+b))):Nat):Int)/\d (.tup [aS (ByteArray.extract c (Int.toNat a) (Int.toNat (w6 (a+b)))),aI (w6 (a+b)),aI 0])))
def rT (d:bA)(e:Int)(R:AV->Prop):Prop:=
 ∃(b c a:Int),Runs Fs 134 [aS d,aI e,aI 2] [] (MG b c a) []/\qK_ a R d c b
def uK:=λa b c=>PLift.up (by delta rT Fl Gl MG qK_ bZ;exact rfl:rT a b c=_)
theorem zL a b R:Vc Fs c245.body (Af c245 [aS a,aI b]) [] (Av c245 R)=rT a b R:=by kernel_rfl
def pQ (d:bA)(e:Int)(R:AV->Prop):Prop:=
 ∃(b c a:Int),Runs Fs 139 [aS d,aI e,aI 2] [] (MG b c a) []/\qK_ a R d c b
def xR:=λa b c=>PLift.up (by delta pQ Fl Gl MG qK_ bZ;exact rfl:pQ a b c=_)
theorem sZ a b R:Vc Fs c184.body (Af c184 [aS a,aI b]) [] (Av c184 R)=pQ a b R:=by kernel_rfl
def V86 (a:bA)(R:AV->Prop):Prop:=
 Ae (decide ((((ByteArray.size a):Nat):Int)<=4096)) (∃b:bA,fN a b/\R (.n (.bool (KM b a)))) (R (.n (.bool false)))
def ACK:=λa b=>PLift.up (by delta V86 fN KM;exact rfl:V86 a b=_)
theorem ADf a R:Vc Fs c86.body (Af c86 [aS a]) [] (Av c86 R)=V86 a R:=by kernel_rfl
def ABG (a:LD)(b:Int)(R:AV->Prop):Prop:=
 rn 1/\(0:Int)<=Ck false (w6 (w6 (b+1)*512)) (a.length:Int)/\((Ck false (w6 (w6 (b+1)*512)) (a.length:Int)):Int)<=(a.length:Int)/\(0:Int)<=Ck false (w6 (w6 (b+1)*512)) (a.length:Int)/\((Ck false (w6 (w6 (b+1)*512)) (a.length:Int)):Int)<=(((Int.toNat (Ck false (w6 (w6 (b+1)*512)) (a.length:Int))):Nat):Int)/\(0:Int)<=Ck false (w6 (b*512)) (a.length:Int)/\((Ck false (w6 (b*512)) (a.length:Int)):Int)<=(((Int.toNat (Ck false (w6 (w6 (b+1)*512)) (a.length:Int))):Nat):Int)/\(rn 1\/@Eq LD (List.drop (Int.toNat (Ck false (w6 (b*512)) (a.length:Int))) (List.take (Int.toNat (Ck false (w6 (w6 (b+1)*512)) (a.length:Int))) a)) [])/\((List.all (List.drop (Int.toNat (Ck false (w6 (b*512)) (a.length:Int))) (List.take (Int.toNat (Ck false (w6 (w6 (b+1)*512)) (a.length:Int))) a)) Go.Mir.D.isU8):Bool)=true/\R (.n (.str (ByteArray.mk (List.toArray (List.map Go.Mir.byteOf (List.drop (Int.toNat (Ck false (w6 (b*512)) (a.length:Int))) (List.take (Int.toNat (Ck false (w6 (w6 (b+1)*512)) (a.length:Int))) a)))))))
theorem ABs a b R:Vc Fs c186.body (Af c186 [aL a,aI b]) [] (Av c186 R)=ABG a b R:=by kernel_rfl
abbrev eG:=
 Nat->Int->Nat×LD->Prop
abbrev dR:=
 Nat->Int->Nat×LD->Nat
abbrev qN_ (h:bA)(b:(Nat×LD))(a:Nat)(f i:bA)(g:Int)(j:eG)(d:Int)(e:dR):=
 ∃(c:bA)(k:Int),Runs Fs 156 [aS h,aI 512] [] (.tup [aS c,aI k]) []/\((Oq b a/\rn 5)/\rn 1)/\((List.length (Prod.snd b)+ByteArray.size c):Nat)<=140737488355328/\rq (aS f)/\rq (aS i)/\rq (aI g)/\rh [(12000902,.row false true (a+1) 5 1 (Prod.snd b++Go.Mir.bytesD c))]/\j (a+1) (w6 (d+1)) (a+1,Prod.snd b++Go.Mir.bytesD c)/\((e (a+1) (w6 (d+1)) (a+1,Prod.snd b++Go.Mir.bytesD c)):Nat)<e a d b
def iR (e f:bA)(g:Int)(R:AV->Prop):Prop:=
 ∃(d:eG)(k:dR),(rh [(12000902,.row false true 0 5 1 [])]/\d 0 0 (0,[]))/\∀(c:Nat)(a:Int)(b:Nat×LD),d c a b->∀l:Nat->AV,Ae (decide (a<8)) (∃i:bA,Runs Fs 155 [aS e,aI a] [] (aS i) []/\(0:Int)<=a/\Ae (w6 (((BitVec.toNat (HAnd.hAnd (BitVec.ofInt (Go.IntKind.bits .i64) (Int.fdiv g (2 ^ (Min.min (Int.toNat a) (Go.IntKind.bits .i64))))) (BitVec.ofInt (Go.IntKind.bits .i64) 1))):Nat):Int)==1) (∃h:bA,Runs Fs 155 [aS f,aI a] [] (aS h) []/\qN_ h b c e f g d a k) (qN_ i b c e f g d a k)) (Oq b c/\sU b/\sD b/\∃j:bA,Runs Fs 81 [aS (sR b)] [] (aS j) []/\R (.n (.str j)))
def tT:=λa b c d=>PLift.up (by delta iR qN_ sU Oq eG dR sD sR;exact rfl:iR a b c d=_)
theorem wV b c a R:Vc Fs c120.body (Af c120 [aS b,aS c,aI a]) [] (Av c120 R)=iR b c a R:=by kernel_rfl
def kH (d:bA)(a:Int)(R:AV->Prop):Prop:=
 Ae (decide (a<0)) (R Gl) (Ae (decide (a>=8)) (R Gl) (∃b:bA,Runs Fs 186 [aL (Go.Mir.bytesD d),aI a] [] (aS b) []/\∃c:bA,fN b c/\R (.n (.str c))))
def ABx:=λa b c=>PLift.up (by delta kH Fl fN Gl;exact rfl:kH a b c=_)
theorem ABM a b R:Vc Fs c155.body (Af c155 [aS a,aI b]) [] (Av c155 R)=kH a b R:=by kernel_rfl
abbrev uV (a:LD):=
 decide ((a.length:Int) > 2048)
abbrev Gx (a b:LD):List AV:=
 [aL a,.o (D.sl 2 b)]
abbrev qQ_ (a:LD):=
 hB 4100103 [aI (a.length:Int)]
abbrev BK (a:Int)(b:LD):=
 decide (a<(b.length:Int))
abbrev GW (a:LD):=
 rq (aI (a.length:Int))
def V41 (a c:LD)(R:AV->Prop):Prop:=
 Ae (decide ((a.length:Int)<1)) (R (.n (.bool false))) (Ae (uV a) (R (.n (.bool false))) (Ae (uV c) (R (.n (.bool false))) (∃(d:Int->Prop)(h:Int->Nat),(rh [hB 4100000 (Gx a c),qQ_ a]/\d 0)/\∀b:Int,d b->∀j:Nat->AV,Ae (BK b a) (rn 1/\(0:Int)<=b/\∃g:D,AW a b g/\∃i:bA,Ci g i/\∃f:Bool,Runs Fs 86 [aS i] [] (aB f) []/\Ae (Bool.not f) (R (.n (.bool false))) (rq (.ptr 4100000 0)/\rq (.ptr 4100103 0)/\rq (aL a)/\GW a/\rh [hB 4100000 (Gx a c),qQ_ a]/\d (w6 (b+1))/\((h (w6 (b+1))):Nat)<h b)) (∃e:Bool,Runs Fs 87 [.o (D.sl 2 c),.fn 88 [.ptr 4100103 0]] [qQ_ a] (aB e) [qQ_ a]/\R (.n (.bool (Bool.not e)))))))
def ADE:=λa b c=>PLift.up (by delta V41 GW qQ_ Ci uV AW BK Gx;exact rfl:V41 a b c=_)
theorem AC5 a b R:Vc Fs c41.body (Af c41 [(.agg [aL a,(.o (.sl 2 b))])]) [] (Av c41 R)=V41 a b R:=by kernel_rfl
abbrev bC (a:Int):=
 hB 4100103 [aI a]
def mG (b:Int)(s:bA)(n:Int)(R:AV->Heap->Prop):Prop:=
 Ae (decide (b<0)) (R (.n (.bool true)) [bC n]) (Ae (decide (b>=n)) (R (.n (.bool true)) [bC n]) (∃a:Bool,Runs Fs 86 [aS s] [] (aB a) []/\R (.n (.bool (Bool.not a))) [bC n]))
def wH:=λa b c d=>PLift.up (by delta mG bC;exact rfl:mG a b c d=_)
theorem ABn (b:Int)(s:bA)(n:Int)(R:AV->Heap->Prop):Vc Fs c88.body (Af c88 [.agg [aI b,aS s],.ptr 4100103 0]) [(4100103,.box [aI n])] (AP c88 [(4100103,.box [aI n])] R)=mG b s n R:=by kernel_rfl
abbrev eE (b:D)(c:Int)(a:bA):=
 @Eq LD (List.take 2 (D.cells b)) [D.int .i64 c,D.str a]
abbrev VZ (a:D):=
 (2:Nat)<=List.length (D.cells a)
def WM (b:LD)(n:Int)(R:AV->Heap->Prop):Prop:=
 ∃(d:Int->Prop)(g:Int->Nat),(rh [hB 4100103 [aI n]]/\d 0)/\∀a:Int,d a->∀i:Nat->AV,Ae (BK a b) (rn 2/\(0:Int)<=a/\∃c:D,AW b a c/\∃(h:Int)(f:bA),eE c h f/\VZ c/\∃e:Bool,Runs Fs 88 [.agg [aI h,aS f],.ptr 4100103 0] [hB 4100103 [aI n]] (aB e) [hB 4100103 [aI n]]/\Ae e (R (.n (.int .i64 a)) [bC n]) (rq (.o (D.sl 2 b))/\rq (.fn 88 [.ptr 4100103 0])/\GW b/\rh [hB 4100103 [aI n]]/\d (w6 (a+1))/\((g (w6 (a+1))):Nat)<g a)) (R (.n (.int .i64 (-1))) [bC n])
def mM:=λa b c=>PLift.up (by delta WM GW VZ bC eE AW BK;exact rfl:WM a b c=_)
theorem nJ (els:LD)(n:Int)(R:AV->Heap->Prop):Vc Fs c133.body (Af c133 [.o (.sl 2 els),.fn 88 [.ptr 4100103 0]]) [(4100103,.box [aI n])] (AP c133 [(4100103,.box [aI n])] R)=WM els n R:=by kernel_rfl
def lR (b:LD)(n:Int)(R:AV->Heap->Prop):Prop:=
 ∃a:Int,Runs Fs 133 [.o (D.sl 2 b),.fn 88 [.ptr 4100103 0]] [hB 4100103 [aI n]] (aI a) [hB 4100103 [aI n]]/\R (Rw a) [bC n]
def uX:=λa b c=>PLift.up (by delta lR bC Rw;exact rfl:lR a b c=_)
theorem AAj (els:LD)(n:Int)(R:AV->Heap->Prop):Vc Fs c87.body (Af c87 [.o (.sl 2 els),.fn 88 [.ptr 4100103 0]]) [(4100103,.box [aI n])] (AP c87 [(4100103,.box [aI n])] R)=lR els n R:=by kernel_rfl
def qI (k:Int)(a:LD)(R:AV->Heap->Prop):Prop:=
 Ae (BK k a) (rn 1/\(0:Int)<=k/\∃b:D,AW a k b/\∃c:Int,((D.cells b)[0]?=some (D.int .i64 c))/\R (.n (.int .i64 c)) [hB 3200001 [aL a]]) (R (.n (.int .i64 0)) [hB 3200001 [aL a]])
def wS:=λa b c=>PLift.up (by delta qI AW BK;exact rfl:qI a b c=_)
theorem wE (k:Int)(ms:LD)(R:AV->Heap->Prop):Vc Fs c73.body (Af c73 [aI k,.ptr 3200001 0]) [(3200001,.box [aL ms])] (AP c73 [(3200001,.box [aL ms])] R)=qI k ms R:=by kernel_rfl
abbrev UC:List AV:=
 [.n D.nil,.n D.nil]
abbrev sF:=
 hB 7200001 UC
abbrev sP (a:Nat):=
 hB 7200104 [.row 11900001 a,.n D.nil]
abbrev MV (a:Int)(b:(Nat×LD)):=
 (a:Int)<((Prod.snd b).length:Int)
abbrev cR (a:Nat)(b:(Nat×LD)):=
 (a:Nat)=Prod.fst b/\rn 1
abbrev eY (b:(Nat×LD))(c:Int)(a:D):=
 ((Prod.snd b)[Int.toNat c]?=some a)
abbrev Ry (a:Int)(b:(Nat×LD)):=
 ((Int.toNat a):Nat)<List.length (Prod.snd b)
abbrev VT (b:(Nat×LD))(c:Int)(a:bA):=
 List.set (Prod.snd b) (Int.toNat c) (D.str a)
def jU (j e f:LD)(R:AV->Heap->Prop):Prop:=
 ∃(b:Nat)(k:LD),Runs Fs 119 [aL j] [] (.row 11900001 b) [hR 11900001 b 9 1 k]/\∃(i:Int->Nat×LD->Prop)(l:Int->Nat×LD->Nat),(rh [hB 3200001 [aL f],hB 7200000 (Gx j e),sF,sP b,hR 11900001 b 9 1 k]/\i 0 (b,k))/\∀(d:Int)(a:Nat×LD),i d a->∀r:Nat->AV,Ae (BK d e) (rn 2/\(0:Int)<=d/\∃h:D,AW e d h/\∃(c:Int)(n:bA),eE h c n/\VZ h/\Qq a b/\(0:Int)<=c/\MV c a/\cR b a/\∃q:D,eY a c q/\∃p:bA,Ci q p/\∃m:Int,Runs Fs 73 [aI d,.ptr 3200001 0] [hB 3200001 [aL f]] (aI m) [hB 3200001 [aL f]]/\∃g:bA,Runs Fs 120 [aS p,aS n,aI m] [] (aS g) []/\Qq a b/\(0:Int)<=c/\MV c a/\V0 b a/\Ry c a/\rq (.fn 73 [.ptr 3200001 0])/\rq (.ptr 7200001 0)/\rq (.ptr 7200104 0)/\rq (.o (D.sl 2 e))/\rq (aI (e.length:Int))/\rh [hB 3200001 [aL f],hB 7200000 (Gx j e),sF,sP b,hR 11900001 (Prod.fst a) 9 1 (VT a c g)]/\i (w6 (d+1)) (Prod.fst a,VT a c g)/\((l (w6 (d+1)) (Prod.fst a,VT a c g)):Nat)<l d a) (Prod.fst a=b/\R (.agg [aL (Prod.snd a),.o (D.sl 2 [])]) [hB 3200001 [aL f]])
def wN:=λa b c d=>PLift.up (by delta jU MV VZ V0 VT UC sP Ry Qq eY eE Oq Ci cR AW sF Gx BK;exact rfl:jU a b c d=_)
theorem vT (bs:LD)(ps:LD)(ms:LD)(R:AV->Heap->Prop):Vc Fs c72.body (Af c72 [.agg [aL bs,.o (.sl 2 ps)],.fn 73 [.ptr 3200001 0]]) [(3200001,.box [aL ms])] (AP c72 [(3200001,.box [aL ms])] R)=jU bs ps ms R:=by kernel_rfl
abbrev Es (a b:LD):AV:=
 .agg (Gx a b)
abbrev VY:AV:=
 .agg [aL [],.o (D.sl 2 [])]
abbrev ZP (a b:LD):AV:=
 .agg [aL a,.o (D.sl 2 b)]
def V32 (c f e:LD)(R:AV->Prop):Prop:=
 ∃b:Bool,Runs Fs 41 [Es c f] [] (aB b) []/\Ae (Bool.not b) (R (.tup [VY,aI 1])) (∃(d a:LD),Runs Fs 72 [Es c f,.fn 73 [.ptr 3200001 0]] [hB 3200001 [aL e]] (Es d a) [hB 3200001 [aL e]]/\R (.tup [ZP d a,aI 0]))
def ADB:=λa b c d=>PLift.up (by delta V32 Es Gx ZP VY;exact rfl:V32 a b c d=_)
theorem AGO a c b R:Vc Fs c32.body (Af c32 [(.agg [aL a,(.o (.sl 2 c))]),aL b]) [] (Av c32 R)=V32 a c b R:=by kernel_rfl
abbrev q7_ (a:AV->Prop):=
 a (.tup [aI 0,Gl,aI 4])
def V93 (g:bA)(h:Int)(R:AV->Prop):Prop:=
 0=0/\∃(i f:Int)(a:bA)(c:Int),Runs Fs 90 [aS g,aL [D.int .i64 5]] [] (VU i f a c) []/\Ae (c != 0) (R (.tup [aI 0,Gl,aI c])) (∃(d b e:Int),Runs Fs 134 [aS a,aI 0,aI 1] [] (MG d b e) []/\Ae (e != 0) (q7_ R) (Ae (f != h) (q7_ R) (Ae (decide (w6 (bZ a b) > 480)) (q7_ R) (Ae (decide (d>=8)) (q7_ R) ((0:Int)<=b/\(b:Int)<=(((ByteArray.size a):Nat):Int)/\R (.tup [aI d,aS (ByteArray.extract a (Int.toNat b) (ByteArray.size a)),aI 0]))))))
def AGV:=λa b c=>PLift.up (by delta V93 Fl VU Gl MG q7_ bZ;exact rfl:V93 a b c=_)
theorem AE8 a b R:Vc Fs c93.body (Af c93 [aS a,aI b]) [] (Av c93 R)=V93 a b R:=by kernel_rfl
abbrev xK:AV:=
 .agg [aI 0,aI 0,aI 0,aI 0]
abbrev IH:=
 Int×Int×Int×Unit
abbrev Rv:=
 Int×IH
abbrev WD:=
 Int×Int×bA×Unit
abbrev Sd:List AV:=
 [aI 0,aI 0,aI 0,aI 0]
abbrev Vr (a:AV->Prop):=
 a (.tup [xK,aI 4])
abbrev bK:=
 rq (.agg [.ptr 8900403 1,.ptr 8900403 2,.ptr 8900403 3])
abbrev dI (a:Rv):=
 hB 8900000 [aI a.1,aI a.2.1,aI a.2.2.1,aI a.2.2.2.1]
abbrev bS (a:WD):=
 hB 8900106 [aI a.1,aI a.2.1,aS a.2.2.1]
abbrev bH (a:Rv):AV:=
 .agg [aI a.1,aI a.2.1,aI a.2.2.1,aI a.2.2.2.1]
def V89 (w:bA)(R:AV->Prop):Prop:=
 0=0/\∃(o h:Int)(l:bA)(m:Int),Runs Fs 90 [aS w,aL [D.int .i64 4]] [] (VU o h l m) []/\Ae (m != 0) (R (.tup [xK,aI m])) (∃(g:Int->Int->Rv->WD->Rv->Prop)(f:Int->Int->Rv->WD->Rv->Nat),(rh [hB 8900000 Sd,(8900101,.row false true 0 3 1 [D.int .i64 4]),hB 8900106 [aI o,aI h,aS l],hB 8900403 [aI h,aI 0,aI 0,aI 0]]/\g 0 0 (0,0,0,0,()) (o,h,l,()) (h,0,0,0,()))/\∀(e d:Int)(b:Rv)(c:WD)(a:Rv),g e d b c a->∀x:Nat->AV,Ae (decide (d<3)) ((0:Int)<=d/\(d:Int)<((3:Nat):Int)/\Ae (d==((0:Nat):Int)) (∃(j r v:Int),Runs Fs 134 [aS c.2.2.1,aI e,aI 2] [] (MG j r v) []/\Ae (v != 0) (Vr R) (rq (.ptr 8900000 0)/\rq (.ptr 8900106 0)/\rq (.ptr 8900403 0)/\bK/\rh [dI b,(8900101,.row false true 0 3 1 [D.int .i64 4]),bS c,hB 8900403 [aI a.1,aI j,aI a.2.2.1,aI a.2.2.2.1]]/\g r (w6 (d+1)) (b.1,b.2.1,b.2.2.1,b.2.2.2.1,()) (c.1,c.2.1,c.2.2.1,()) (a.1,j,a.2.2.1,a.2.2.2.1,())/\((f r (w6 (d+1)) (b.1,b.2.1,b.2.2.1,b.2.2.2.1,()) (c.1,c.2.1,c.2.2.1,()) (a.1,j,a.2.2.1,a.2.2.2.1,())):Nat)<f e d b c a)) (Ae (d==(((0+1):Nat):Int)) (∃(k p s:Int),Runs Fs 134 [aS c.2.2.1,aI e,aI 2] [] (MG k p s) []/\Ae (s != 0) (Vr R) (rq (.ptr 8900000 0)/\rq (.ptr 8900106 0)/\rq (.ptr 8900403 0)/\bK/\rh [dI b,(8900101,.row false true 0 3 1 [D.int .i64 4]),bS c,hB 8900403 [aI a.1,aI a.2.1,aI k,aI a.2.2.2.1]]/\g p (w6 (d+1)) (b.1,b.2.1,b.2.2.1,b.2.2.2.1,()) (c.1,c.2.1,c.2.2.1,()) (a.1,a.2.1,k,a.2.2.2.1,())/\((f p (w6 (d+1)) (b.1,b.2.1,b.2.2.1,b.2.2.2.1,()) (c.1,c.2.1,c.2.2.1,()) (a.1,a.2.1,k,a.2.2.2.1,())):Nat)<f e d b c a)) (Ae (d==(((0+1+1):Nat):Int)) (∃(i q t:Int),Runs Fs 134 [aS c.2.2.1,aI e,aI 2] [] (MG i q t) []/\Ae (t != 0) (Vr R) (rq (.ptr 8900000 0)/\rq (.ptr 8900106 0)/\rq (.ptr 8900403 0)/\bK/\rh [dI b,(8900101,.row false true 0 3 1 [D.int .i64 4]),bS c,hB 8900403 [aI a.1,aI a.2.1,aI a.2.2.1,aI i]]/\g q (w6 (d+1)) (b.1,b.2.1,b.2.2.1,b.2.2.2.1,()) (c.1,c.2.1,c.2.2.1,()) (a.1,a.2.1,a.2.2.1,i,())/\((f q (w6 (d+1)) (b.1,b.2.1,b.2.2.1,b.2.2.2.1,()) (c.1,c.2.1,c.2.2.1,()) (a.1,a.2.1,a.2.2.1,i,())):Nat)<f e d b c a)) False))) (Ae (e != (((ByteArray.size c.2.2.1):Nat):Int)) (Vr R) (∃u:Bool,Runs Fs 66 [.agg [aI a.1,aI a.2.1,aI a.2.2.1,aI a.2.2.2.1]] [] (aB u) []/\Ae (Bool.not u) (Vr R) (R (.tup [bH a,aI 0])))))
def ACo:=λa b=>PLift.up (by delta V89 bK xK Sd IH bH Vr Rv bS WD MG VU dI;exact rfl:V89 a b=_)
theorem ACF a R:Vc Fs c89.body (Af c89 [aS a]) [] (Av c89 R)=V89 a R:=by kernel_rfl
abbrev oU (e:LD)(a:Rv)(f:(Int->(Int->(Rv->Prop))))(b c:Int)(d:(Int->(Int->(Rv->Nat)))):=
 rq (.ptr 4200000 0)/\rq (.ptr 4200101 0)/\rq (aL e)/\rq (aI (e.length:Int))/\rh [hB 4200000 Sd,hB 4200101 [aI a.1,aI a.2.1,aI a.2.2.1,aI a.2.2.2.1]]/\f b (w6 (c+1)) (a.1,a.2.1,a.2.2.1,a.2.2.2.1,())/\((d b (w6 (c+1)) (a.1,a.2.1,a.2.2.1,a.2.2.2.1,())):Nat)<d b c a
def V42 (c:LD)(R:AV->Prop):Prop:=
 ∃(f:Int->Int->Rv->Prop)(g:Int->Int->Rv->Nat),(rh [hB 4200000 Sd,hB 4200101 Sd]/\f (-1) 0 (0,0,0,0,()))/\∀(b a:Int)(d:Rv),f b a d->∀o:Nat->AV,Ae (BK a c) (rn 1/\(0:Int)<=a/\∃l:D,AW c a l/\∃k:bA,Ci l k/\∃(e j i h m:Int),Runs Fs 89 [aS k] [] (.tup [.agg [aI e,aI j,aI i,aI h],aI m]) []/\Ae (m==0) (Ae (decide (e > d.1)) (rq (.ptr 4200000 0)/\rq (.ptr 4200101 0)/\rq (aL c)/\rq (aI (c.length:Int))/\rh [hB 4200000 Sd,hB 4200101 [aI e,aI j,aI i,aI h]]/\f a (w6 (a+1)) (e,j,i,h,())/\((g a (w6 (a+1)) (e,j,i,h,())):Nat)<g b a d) (oU c d f b a g)) (oU c d f b a g)) (Ae (decide (b<0)) (R (.tup [xK,aI 0,aI 120])) (R (.tup [bH d,aI b,aI 0])))
def AD8:=λa b=>PLift.up (by delta V42 xK Sd IH bH Rv Ci AW BK oU;exact rfl:V42 a b=_)
theorem AFU a R:Vc Fs c42.body (Af c42 [aL a]) [] (Av c42 R)=V42 a R:=by kernel_rfl
abbrev aU (b:Int)(c:bA)(a:Int):=
 Runs Fs 79 [aI b,aI 2] [] (.tup [aS c,aI a]) []
def V38 (g e k d:Int)(R:AV->Prop):Prop:=
 ∃f:Bool,Runs Fs 66 [.agg [aI g,aI e,aI k,aI d]] [] (aB f) []/\Ae (Bool.not f) (Qi R) (∃(h:bA)(l:Int),aU e h l/\∃(b:bA)(o:Int),aU k b o/\∃(i:bA)(m:Int),aU d i m/\0=0/\∃a:bA,Runs Fs 83 [aL [D.str h,D.str b,D.str i]] [] (aS a) []/\∃(c:bA)(j:Int),Runs Fs 36 [.agg [aI 4,aI g,aS a]] [] (.tup [aS c,aI j]) []/\R (.tup [aS c,aI j]))
def AC0:=λa b c d e=>PLift.up (by delta V38 Fl aU Qi Gl;exact rfl:V38 a b c d e=_)
theorem AG5 b d c a R:Vc Fs c38.body (Af c38 [(.agg [aI b,aI d,aI c,aI a])]) [] (Av c38 R)=V38 b d c a R:=by kernel_rfl
abbrev Wj (b d a c:Int):=
 hB 6600000 [aI b,aI d,aI a,aI c]
abbrev qA (a e b c:Int)(f:AV->Prop):=
 ∃d:Bool,Runs Fs 110 [aI a,.ptr 6600000 0] [Wj e b a c] (aB d) [Wj e b a c]/\Ae d (f (.n (.bool (a != b)))) (f (.n (.bool false)))
def V66 (a b d c:Int)(R:AV->Prop):Prop:=
 Ae (decide (a>=1)) (Ae (decide (a<=1099511627776)) (Ae (decide (c>=24)) (Ae (decide (c<=2048)) (Ae (b==0) (qA d a b c R) (∃e:Bool,Runs Fs 110 [aI b,.ptr 6600000 0] [Wj a b d c] (aB e) [Wj a b d c]/\Ae e (qA d a b c R) (R (.n (.bool false))))) (R (.n (.bool false)))) (R (.n (.bool false)))) (R (.n (.bool false)))) (R (.n (.bool false)))
def AD0:=λa b c d e=>PLift.up (by delta V66 Wj qA;exact rfl:V66 a b c d e=_)
theorem ADU b d c a R:Vc Fs c66.body (Af c66 [(.agg [aI b,aI d,aI c,aI a])]) [] (Av c66 R)=V66 b d c a R:=by kernel_rfl
abbrev HX (a b:LD):=
 (a.length:Int) != (b.length:Int)
abbrev cE (b e:LD)(d:(Int->Prop))(a:Int)(c:(Int->Nat)):=
 rq (aL b)/\rq (aL e)/\rq (aI (b.length:Int))/\rh []/\d (w6 (a+1))/\((c (w6 (a+1))):Nat)<c a
def V50 (b c:LD)(R:AV->Prop):Prop:=
 Ae (HX b c) (R (.n (.bool false))) (∃(d:Int->Prop)(i:Int->Nat),(rh []/\d 0)/\∀a:Int,d a->∀j:Nat->AV,Ae (BK a b) (rn 1/\(0:Int)<=a/\∃g:D,AW b a g/\∃h:bA,Ci g h/\rn 1/\(0:Int)<=a/\∃f:D,AW c a f/\∃e:bA,Ci f e/\Ae (Bool.not (KM h e)) (R (.n (.bool false))) (cE b c d a i)) (R (.n (.bool true))))
def AGP:=λa b c=>PLift.up (by delta V50 HX KM Ci cE AW BK;exact rfl:V50 a b c=_)
theorem AFp a b R:Vc Fs c50.body (Af c50 [aL a,aL b]) [] (Av c50 R)=V50 a b R:=by kernel_rfl
abbrev PK (a:(Nat×LD))(c:Nat)(b:AV->Prop):=
 Prod.fst a=c/\b (.o (.sl 1 (Prod.snd a)))
abbrev Jz (a:bA):=
 rn 1\/@Eq LD [D.str a] []
abbrev Jv (a:(Nat×LD))(b:bA):=
 (((List.length (Prod.snd a)+List.length [D.str b])*16):Nat)<=140737488355328
abbrev Cn (a:(Nat×LD))(b:bA):=
 Prod.snd a++[D.str b]
def V45 (j:Int)(e:LD)(R:AV->Prop):Prop:=
 ∃(f:eG)(k:dR),(rh [(4500803,.row false true 0 9 1 [])]/\f 0 0 (0,[]))/\∀(a:Nat)(c:Int)(b:Nat×LD),f a c b->∀m:Nat->AV,Ae (BK c e) (rn 1/\(0:Int)<=c/\∃i:D,AW e c i/\∃g:bA,Ci i g/\∃(h:Int)(d:bA)(l:Int),Runs Fs 93 [aS g,aI j] [] (.tup [aI h,aS d,aI l]) []/\Ae (l != 0) (PK b a R) (Ae (h != c) (PK b a R) (rn 0/\Jz d/\((Oq b a/\rn 9)/\rn 1)/\Jv b d/\rq (aI j)/\rq (aL e)/\rq (aI (e.length:Int))/\rh [(4500803,.row false true (a+1) 9 1 (Cn b d))]/\f (a+1) (w6 (c+1)) (a+1,Cn b d)/\((k (a+1) (w6 (c+1)) (a+1,Cn b d)):Nat)<k a c b))) (PK b a R)
def ADe:=λa b c=>PLift.up (by delta V45 Cn Oq PK Ci eG dR Jv AW Jz BK;exact rfl:V45 a b c=_)
theorem ACL a b R:Vc Fs c45.body (Af c45 [aI a,aL b]) [] (Av c45 R)=V45 a b R:=by kernel_rfl
abbrev mL (b d a c:Int):=
 hB 6600000 [aI b,aI d,aI a,aI c]
def Yi (x g r m z:Int)(R:AV->Heap->Prop):Prop:=
 Ae (decide (x>=10)) (R (.n (.bool (decide (x<z)))) [mL g r m z]) (R (.n (.bool false)) [mL g r m z])
def kV:=λa b c d e f=>PLift.up (by delta Yi mL;exact rfl:Yi a b c d e f=_)
theorem lA (x:Int)(g:Int)(r:Int)(m:Int)(z:Int)(R:AV->Heap->Prop):Vc Fs c110.body (Af c110 [(aI x),(.ptr 6600000 0)]) [(6600000,.box [aI g,aI r,aI m,aI z])] (AP c110 [(6600000,.box [aI g,aI r,aI m,aI z])] R)=Yi x g r m z R:=by kernel_rfl
abbrev Yh (b d a c:LD):=
 rh [hB 1300000 (Gx b d),hB 1300001 (Gx a c)]
def V13 (d c f e:LD)(R:AV->Prop):Prop:=
 Ae (HX d f) (R (.n (.bool false))) (Ae (HX c e) (R (.n (.bool false))) (∃(i:Int->Prop)(t:Int->Nat),(Yh d c f e/\i 0)/\∀a:Int,i a->∀v:Nat->AV,Ae (BK a d) (rn 1/\(0:Int)<=a/\∃m:D,AW d a m/\∃s:bA,Ci m s/\rn 1/\(0:Int)<=a/\∃l:D,AW f a l/\∃k:bA,Ci l k/\Ae (Bool.not (KM s k)) (R (.n (.bool false))) (rq (.ptr 1300000 0)/\rq (.ptr 1300001 0)/\GW d/\Yh d c f e/\i (w6 (a+1))/\((t (w6 (a+1))):Nat)<t a)) (∃(g:Int->Prop)(p:Int->Nat),(Yh d c f e/\g 0)/\∀b:Int,g b->∀w:Nat->AV,Ae (BK b c) (rn 2/\(0:Int)<=b/\∃h:D,AW c b h/\∃(u:Int)(r:bA),eE h u r/\VZ h/\rn 2/\(0:Int)<=b/\∃j:D,AW e b j/\∃(q:Int)(o:bA),eE j q o/\VZ j/\Ae (Bool.not (u==q&&(KM r o&&true))) (R (.n (.bool false))) (rq (.ptr 1300000 0)/\rq (.ptr 1300001 0)/\GW c/\Yh d c f e/\g (w6 (b+1))/\((p (w6 (b+1))):Nat)<p b)) (R (.n (.bool true))))))
def AGw:=λa b c d e=>PLift.up (by delta V13 GW HX VZ Yh KM eE Ci AW BK Gx;exact rfl:V13 a b c d e=_)
theorem ADG a d c b R:Vc Fs c13.body (Af c13 [(.agg [aL a,(.o (.sl 2 d))]),(.agg [aL c,(.o (.sl 2 b))])]) [] (Av c13 R)=V13 a d c b R:=by kernel_rfl
def pD (i e:LD)(R:AV->Prop):Prop:=
 ∃(b:Nat)(j:LD),Runs Fs 119 [aL i] [] (.row 11900001 b) [hR 11900001 b 9 1 j]/\∃(h:Int->Nat×LD->Prop)(k:Int->Nat×LD->Nat),(rh [hB 7200000 (Gx i e),sF,sP b,hR 11900001 b 9 1 j]/\h 0 (b,j))/\∀(d:Int)(a:Nat×LD),h d a->∀q:Nat->AV,Ae (BK d e) (rn 2/\(0:Int)<=d/\∃g:D,AW e d g/\∃(c:Int)(m:bA),eE g c m/\VZ g/\Qq a b/\(0:Int)<=c/\MV c a/\cR b a/\∃p:D,eY a c p/\∃n:bA,Ci p n/\∃l:Int,Runs Fs 101 [aI d] [] (aI l) []/\∃f:bA,Runs Fs 120 [aS n,aS m,aI l] [] (aS f) []/\Qq a b/\(0:Int)<=c/\MV c a/\V0 b a/\Ry c a/\rq (.fn 101 [])/\rq (.ptr 7200001 0)/\rq (.ptr 7200104 0)/\rq (.o (D.sl 2 e))/\rq (aI (e.length:Int))/\rh [hB 7200000 (Gx i e),sF,sP b,hR 11900001 (Prod.fst a) 9 1 (VT a c f)]/\h (w6 (d+1)) (Prod.fst a,VT a c f)/\((k (w6 (d+1)) (Prod.fst a,VT a c f)):Nat)<k d a) (Prod.fst a=b/\R (.agg [aL (Prod.snd a),.o (D.sl 2 [])]))
def xZ:=λa b c=>PLift.up (by delta pD MV VZ V0 VT UC sP Ry Qq eY eE Oq Ci cR AW sF Gx BK;exact rfl:pD a b c=_)
theorem uI b a R:Vc Fs c72.body (Af c72 [.agg [aL b,.o (.sl 2 a)],.fn 101 []]) [] (Av c72 R)=pD b a R:=by kernel_rfl
def ADQ (a:Int)(R:AV->Prop):Prop:=
 R (.n (.int .i64 255))
theorem ACd a R:Vc Fs c101.body (Af c101 [aI a]) [] (Av c101 R)=ADQ a R:=by kernel_rfl
def V54 (c e:LD)(R:AV->Prop):Prop:=
 ∃b:Bool,Runs Fs 41 [Es c e] [] (aB b) []/\Ae (Bool.not b) (R (.tup [VY,aI 1])) (∃(d a:LD),Runs Fs 72 [Es c e,.fn 101 []] [] (Es d a) []/\R (.tup [ZP d a,aI 0]))
def AG2:=λa b c=>PLift.up (by delta V54 Es Gx ZP VY;exact rfl:V54 a b c=_)
theorem AFY a b R:Vc Fs c54.body (Af c54 [(.agg [aL a,(.o (.sl 2 b))])]) [] (Av c54 R)=V54 a b R:=by kernel_rfl
abbrev Lv (a:Int)(b:LD):=
 decide (a>=(b.length:Int))
def V99 (b d:LD)(c:Int)(R:AV->Prop):Prop:=
 ∃a:Bool,Runs Fs 41 [Es b d] [] (aB a) []/\Ae (Bool.not a) (R (.n (.int .i64 1))) (Ae (decide (c<0)) (R (.n (.int .i64 30))) (Ae (Lv c b) (R (.n (.int .i64 30))) (R (.n (.int .i64 0)))))
def AF3:=λa b c d=>PLift.up (by delta V99 Es Gx Lv;exact rfl:V99 a b c d=_)
theorem AFs a c b R:Vc Fs c99.body (Af c99 [(.agg [aL a,(.o (.sl 2 c))]),aI b]) [] (Av c99 R)=V99 a c b R:=by kernel_rfl
abbrev O0 (a:AV->Prop)(b:Int):=
 a (.tup [VY,aI b])
def V53 (g e:LD)(c:Int)(h:bA)(R:AV->Prop):Prop:=
 ∃f:Int,Runs Fs 99 [Es g e,aI c] [] (aI f) []/\Ae (f != 0) (O0 R f) (Ae (rW h) (R (.tup [VY,aI 2])) (Ae (decide ((e.length:Int)>=2048)) (R (.tup [VY,aI 2])) (∃(a:Nat)(d:LD),Runs Fs 100 [.o (D.sl 2 e)] [] (.row 10000001 a) [hR 10000001 a 88 2 d]/\∃b:bA,fN h b/\rn 0/\(rn 2\/@Eq LD [D.rcd [D.int .i64 c,D.str b]] [])/\((rn a/\rn 88)/\rn 2)/\(((List.length d+List.length [D.rcd [D.int .i64 c,D.str b]])*24):Nat)<=140737488355328/\a+1=a+1/\R (.tup [.agg [aL g,.o (D.sl 2 (d++[D.rcd [D.int .i64 c,D.str b]]))],aI 0]))))
def ACD:=λa b c d e=>PLift.up (by delta V53 rW Es VY fN Gx O0;exact rfl:V53 a b c d e=_)
theorem ADZ b d c a R:Vc Fs c53.body (Af c53 [(.agg [aL b,(.o (.sl 2 d))]),aI c,aS a]) [] (Av c53 R)=V53 b d c a R:=by kernel_rfl
end Go.Proofs.YtegndijbpiccgaaGreatDoor.M
