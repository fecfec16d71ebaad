import Derived.Test.YtjmpnbbeplgchabGreatDoorProg
import Derived.Test.YtjmpnbbeplgchabGreatDoorMirI
import Derived.Test.YtjmpnbbeplgchabGreatDoorMirL
import Derived.KernelRfl
import Derived.Test.YtjmpnbbeplgchabGreatDoorR6Pj
import Derived.Test.YtjmpnbbeplgchabGreatDoorR6Un
import Derived.Test.YtjmpnbbeplgchabGreatDoorR6FunB
import Derived.Test.YtjmpnbbeplgchabGreatDoorR6LV
import Derived.Test.YtjmpnbbeplgchabGreatDoorR6PW
namespace Go.Proofs.YtjmpnbbeplgchabGreatDoor.M
set_option linter.unusedVariables false
set_option linter.unusedSimpArgs false
open Go Go.Mir Go.Proofs
def Ma:List Nat:=[1000022]
noncomputable def b60:=bO Tryz.prog Tryz.f60.body Ma 60 [] [(5,[.keepF 60,.keep 1,.slot 3 (.one (.int .i64)),.keep 10,.keep 11,.slot 12 (.one (.int .i64)),.keepO 6000000])]
noncomputable def c60:FnC:=⟨60,31,[.tmp 2],b60,false,[.agg [.slo 1,.slo 1]],.val (.one (.int .i64)),none,false,[]⟩
theorem AGH:IsFn Tryz.prog 60 c60:=AP Tryz.func60 rfl rfl
noncomputable def b61:=bO Tryz.prog Tryz.f61.body Ma 61 [] []
noncomputable def c61:FnC:=⟨61,10,[.cell 2 (some 11)],b61,false,[.agg [.slo 1,.slo 2,.int .i64,.int .i64,.int .i64,.int .i64,.int .i64,.int .i64,.slo 1,.slo 1,.slo 1,.int .i64,.int .i64,.int .i64,.int .i64]],.val (.agg [.int .i64,.int .i64,.int .i64,.int .i64,.int .i64,.slo 1,.slo 1,.slo 1,.int .i64,.int .i64,.slo 1]),none,false,[]⟩
theorem AG6:IsFn Tryz.prog 61 c61:=AP Tryz.func61 rfl rfl
noncomputable def b63:=bO Tryz.prog Tryz.f63.body Ma 63 [] []
noncomputable def c63:FnC:=⟨63,13,[.cell 4 (some 15),.tmp 5],b63,false,[.agg [.slo 1,.slo 2,.int .i64],.one (.int .i64)],.tup [.agg [.slo 1,.slo 2,.int .i64,.int .i64,.int .i64,.int .i64,.int .i64,.int .i64,.slo 1,.slo 1,.slo 1,.int .i64,.int .i64,.int .i64,.int .i64],.one (.int .i64)],none,false,[]⟩
theorem AFL:IsFn Tryz.prog 63 c63:=AP Tryz.func63 rfl rfl
noncomputable def b34:=bO Tryz.prog Tryz.f34.body Ma 34 [] []
noncomputable def c34:FnC:=⟨34,31,[.cell 4 (some 15),.tmp 5],b34,false,[.agg [.slo 1,.slo 2,.int .i64],.agg [.int .i64,.int .i64,.int .i64,.int .i64,.int .i64,.slo 1,.slo 1,.slo 1,.int .i64,.int .i64,.slo 1]],.tup [.agg [.slo 1,.slo 2,.int .i64,.int .i64,.int .i64,.int .i64,.int .i64,.int .i64,.slo 1,.slo 1,.slo 1,.int .i64,.int .i64,.int .i64,.int .i64],.one (.int .i64)],none,false,[]⟩
theorem ADT:IsFn Tryz.prog 34 c34:=AP Tryz.func34 rfl rfl
noncomputable def b19:=bO Tryz.prog Tryz.f19.body Ma 19 [] []
noncomputable def c19:FnC:=⟨19,54,[.tmp 2],b19,false,[.agg [.slo 1,.slo 2,.int .i64,.int .i64,.int .i64,.int .i64,.int .i64,.int .i64,.slo 1,.slo 1,.slo 1,.int .i64,.int .i64,.int .i64,.int .i64]],.val (.one .bool),none,false,[]⟩
theorem AD1:IsFn Tryz.prog 19 c19:=AP Tryz.func19 rfl rfl
noncomputable def b8:=bO Tryz.prog Tryz.f8.body Ma 8 [] [(5,[.keepF 8,.keep 1,.keep 2,.keep 4,.keep 21,.keep 22,.slot 23 (.one (.int .i64)),.keepO 800000,.box 800001 [.nil,.nil,.int .i64,.int .i64,.int .i64,.int .i64,.int .i64,.int .i64,.nil,.nil,.nil,.int .i64,.int .i64,.int .i64,.int .i64],.box 800106 [.int .i64,.int .i64,.int .i64,.int .i64,.int .i64,.slo 1,.slo 1,.slo 1,.int .i64,.int .i64,.slo 1]])]
noncomputable def c8:FnC:=⟨8,52,[.cell 2 (some 15),.tmp 3],b8,false,[.agg [.slo 1,.slo 2,.int .i64]],.tup [.agg [.slo 1,.slo 2,.int .i64,.int .i64,.int .i64,.int .i64,.int .i64,.int .i64,.slo 1,.slo 1,.slo 1,.int .i64,.int .i64,.int .i64,.int .i64],.one (.int .i64)],none,false,[]⟩
theorem is8:IsFn Tryz.prog 8 c8:=AP Tryz.func8 rfl rfl
noncomputable def b14:=bO Tryz.prog Tryz.f14.body Ma 14 [] []
noncomputable def c14:FnC:=⟨14,20,[.cell 2 (some 15),.tmp 3],b14,false,[.one (.int .i64)],.tup [.agg [.slo 1,.slo 2,.int .i64,.int .i64,.int .i64,.int .i64,.int .i64,.int .i64,.slo 1,.slo 1,.slo 1,.int .i64,.int .i64,.int .i64,.int .i64],.one (.int .i64)],none,false,[]⟩
theorem AGJ:IsFn Tryz.prog 14 c14:=AP Tryz.func14 rfl rfl
noncomputable def b21:=bO Tryz.prog Tryz.f21.body Ma 21 [] []
noncomputable def c21:FnC:=⟨21,29,[.cell 2 (some 15),.tmp 3],b21,false,[.agg [.slo 1,.slo 2,.int .i64,.int .i64,.int .i64,.int .i64,.int .i64,.int .i64,.slo 1,.slo 1,.slo 1,.int .i64,.int .i64,.int .i64,.int .i64]],.tup [.agg [.slo 1,.slo 2,.int .i64,.int .i64,.int .i64,.int .i64,.int .i64,.int .i64,.slo 1,.slo 1,.slo 1,.int .i64,.int .i64,.int .i64,.int .i64],.one (.int .i64)],none,false,[]⟩
theorem AHf:IsFn Tryz.prog 21 c21:=AP Tryz.func21 rfl rfl
noncomputable def b18:=bO Tryz.prog Tryz.f18.body Ma 18 [] []
noncomputable def c18:FnC:=⟨18,15,[.cell 2 (some 15),.tmp 3],b18,false,[.agg [.slo 1,.slo 2,.int .i64,.int .i64,.int .i64,.int .i64,.int .i64,.int .i64,.slo 1,.slo 1,.slo 1,.int .i64,.int .i64,.int .i64,.int .i64]],.tup [.agg [.slo 1,.slo 2,.int .i64,.int .i64,.int .i64,.int .i64,.int .i64,.int .i64,.slo 1,.slo 1,.slo 1,.int .i64,.int .i64,.int .i64,.int .i64],.one (.int .i64)],none,false,[]⟩
theorem AJk:IsFn Tryz.prog 18 c18:=AP Tryz.func18 rfl rfl
noncomputable def b27:=bO Tryz.prog Tryz.f27.body Ma 27 [] []
noncomputable def c27:FnC:=⟨27,95,[.cell 4 (some 15),.tmp 5],b27,false,[.agg [.slo 1,.slo 2,.int .i64,.int .i64,.int .i64,.int .i64,.int .i64,.int .i64,.slo 1,.slo 1,.slo 1,.int .i64,.int .i64,.int .i64,.int .i64],.one (.slo 3)],.tup [.agg [.slo 1,.slo 2,.int .i64,.int .i64,.int .i64,.int .i64,.int .i64,.int .i64,.slo 1,.slo 1,.slo 1,.int .i64,.int .i64,.int .i64,.int .i64],.one (.int .i64)],none,false,[]⟩
theorem AEv:IsFn Tryz.prog 27 c27:=AP Tryz.func27 rfl rfl
noncomputable def b20:=bO Tryz.prog Tryz.f20.body Ma 20 [] []
noncomputable def c20:FnC:=⟨20,13,[.cell 4 (some 2),.tmp 5],b20,false,[.agg [.slo 1,.slo 2,.int .i64,.int .i64,.int .i64,.int .i64,.int .i64,.int .i64,.slo 1,.slo 1,.slo 1,.int .i64,.int .i64,.int .i64,.int .i64],.one (.slo 1)],.tup [.agg [.slo 1,.slo 2],.one (.int .i64)],none,false,[]⟩
theorem AFc:IsFn Tryz.prog 20 c20:=AP Tryz.func20 rfl rfl
noncomputable def b7:=bO Tryz.prog Tryz.f7.body Ma 7 [] []
noncomputable def c7:FnC:=⟨7,25,[.tmp 0],b7,false,[],.val (.one .bool),none,false,[]⟩
theorem is7:IsFn Tryz.prog 7 c7:=AP Tryz.func7 rfl rfl
noncomputable def b12:=bO Tryz.prog Tryz.f12.body Ma 12 [] []
noncomputable def c12:FnC:=⟨12,30,[.cell 4 (some 15),.tmp 5],b12,false,[.agg [.slo 1,.slo 2,.int .i64],.agg [.int .i64,.int .i64,.int .i64,.int .i64,.int .i64,.slo 1,.slo 1,.slo 1,.int .i64,.int .i64,.slo 1]],.tup [.agg [.slo 1,.slo 2,.int .i64,.int .i64,.int .i64,.int .i64,.int .i64,.int .i64,.slo 1,.slo 1,.slo 1,.int .i64,.int .i64,.int .i64,.int .i64],.one (.int .i64)],none,false,[]⟩
theorem AJx:IsFn Tryz.prog 12 c12:=AP Tryz.func12 rfl rfl
noncomputable def b13:=bO Tryz.prog Tryz.f13.body Ma 13 [] []
noncomputable def c13:FnC:=⟨13,31,[.tmp 4],b13,false,[.agg [.slo 1,.slo 2,.int .i64,.int .i64,.int .i64,.int .i64,.int .i64,.int .i64,.slo 1,.slo 1,.slo 1,.int .i64,.int .i64,.int .i64,.int .i64],.agg [.slo 1,.slo 2,.int .i64,.int .i64,.int .i64,.int .i64,.int .i64,.int .i64,.slo 1,.slo 1,.slo 1,.int .i64,.int .i64,.int .i64,.int .i64]],.val (.one .bool),none,false,[]⟩
theorem AFS:IsFn Tryz.prog 13 c13:=AP Tryz.func13 rfl rfl
noncomputable def b16:=bO Tryz.prog Tryz.f16.body Ma 16 [] []
noncomputable def c16:FnC:=⟨16,32,[.tmp 2],b16,false,[.agg [.slo 1,.slo 2,.int .i64,.int .i64,.int .i64,.int .i64,.int .i64,.int .i64,.slo 1,.slo 1,.slo 1,.int .i64,.int .i64,.int .i64,.int .i64]],.val (.one .bool),none,false,[]⟩
theorem AF6:IsFn Tryz.prog 16 c16:=AP Tryz.func16 rfl rfl
noncomputable def b17:=bO Tryz.prog Tryz.f17.body Ma 17 [] []
noncomputable def c17:FnC:=⟨17,54,[.tmp 2],b17,false,[.agg [.slo 1,.slo 2,.int .i64,.int .i64,.int .i64,.int .i64,.int .i64,.int .i64,.slo 1,.slo 1,.slo 1,.int .i64,.int .i64,.int .i64,.int .i64]],.val (.one .bool),none,false,[]⟩
theorem AHY:IsFn Tryz.prog 17 c17:=AP Tryz.func17 rfl rfl
noncomputable def b24:=bO Tryz.prog Tryz.f24.body Ma 24 [] []
noncomputable def c24:FnC:=⟨24,51,[.tmp 2],b24,false,[.agg [.slo 1,.slo 2,.int .i64,.int .i64,.int .i64,.int .i64,.int .i64,.int .i64,.slo 1,.slo 1,.slo 1,.int .i64,.int .i64,.int .i64,.int .i64]],.val (.one .bool),none,false,[]⟩
theorem AHv:IsFn Tryz.prog 24 c24:=AP Tryz.func24 rfl rfl
noncomputable def b28:=bO Tryz.prog Tryz.f28.body Ma 28 [] []
noncomputable def c28:FnC:=⟨28,10,[.cell 2 (some 11)],b28,false,[.agg [.slo 1,.slo 2,.int .i64,.int .i64,.int .i64,.int .i64,.int .i64,.int .i64,.slo 1,.slo 1,.slo 1,.int .i64,.int .i64,.int .i64,.int .i64]],.val (.agg [.int .i64,.int .i64,.int .i64,.int .i64,.int .i64,.slo 1,.slo 1,.slo 1,.int .i64,.int .i64,.slo 1]),none,false,[]⟩
theorem AEb:IsFn Tryz.prog 28 c28:=AP Tryz.func28 rfl rfl
noncomputable def b30:=bO Tryz.prog Tryz.f30.body Ma 30 [] []
noncomputable def c30:FnC:=⟨30,10,[.cell 4 (some 15)],b30,false,[.agg [.slo 1,.slo 2,.int .i64],.one (.int .i64)],.val (.agg [.slo 1,.slo 2,.int .i64,.int .i64,.int .i64,.int .i64,.int .i64,.int .i64,.slo 1,.slo 1,.slo 1,.int .i64,.int .i64,.int .i64,.int .i64]),none,false,[]⟩
theorem AID:IsFn Tryz.prog 30 c30:=AP Tryz.func30 rfl rfl
noncomputable def b31:=bO Tryz.prog Tryz.f31.body Ma 31 [] []
noncomputable def c31:FnC:=⟨31,93,[.cell 4 (some 15),.tmp 5],b31,false,[.agg [.slo 1,.slo 2,.int .i64,.int .i64,.int .i64,.int .i64,.int .i64,.int .i64,.slo 1,.slo 1,.slo 1,.int .i64,.int .i64,.int .i64,.int .i64],.one (.slo 3)],.tup [.agg [.slo 1,.slo 2,.int .i64,.int .i64,.int .i64,.int .i64,.int .i64,.int .i64,.slo 1,.slo 1,.slo 1,.int .i64,.int .i64,.int .i64,.int .i64],.one (.int .i64)],none,false,[]⟩
theorem AFb:IsFn Tryz.prog 31 c31:=AP Tryz.func31 rfl rfl
noncomputable def b3:=bO Tryz.prog Tryz.f3.body Ma 3 [(5,[1,2,5,6,7,8],[300907],[],[]),(6,[1,2,5,6,7,8,47,48,49],[300907],[],[]),(13,[1,2,5,6,7,8,47,48,49],[300907],[],[])] [(6,[.keepF 3,.keep 1,.keep 2,.keep 5,.keep 6,.keep 7,.slot 8 (.one (.int .i64)),.keep 47,.keep 48,.slot 49 (.one (.int .i64)),.keepO 300000,.keepO 300305,.box 300406 [.int .i64,.int .i64,.int .i64,.int .i64,.int .i64,.slo 1,.slo 1,.slo 1,.int .i64,.int .i64,.slo 1]])]
noncomputable def c3:FnC:=⟨3,137,[.tmp 4],b3,false,[.agg [.slo 1,.slo 2,.int .i64],.one (.int .i64)],.val (.one .bool),none,false,[]⟩
theorem is3:IsFn Tryz.prog 3 c3:=AP Tryz.func3 rfl rfl
noncomputable def b4:=bO Tryz.prog Tryz.f4.body Ma 4 [] []
noncomputable def c4:FnC:=⟨4,138,[.tmp 4],b4,false,[.agg [.slo 1,.slo 2,.int .i64,.int .i64,.int .i64,.int .i64,.int .i64,.int .i64,.slo 1,.slo 1,.slo 1,.int .i64,.int .i64,.int .i64,.int .i64],.one (.slo 1)],.val (.one .bool),none,false,[]⟩
theorem is4:IsFn Tryz.prog 4 c4:=AP Tryz.func4 rfl rfl
noncomputable def b5:=bO Tryz.prog Tryz.f5.body Ma 5 [] []
noncomputable def c5:FnC:=⟨5,135,[.tmp 4],b5,false,[.agg [.slo 1,.slo 2,.int .i64,.int .i64,.int .i64,.int .i64,.int .i64,.int .i64,.slo 1,.slo 1,.slo 1,.int .i64,.int .i64,.int .i64,.int .i64],.one (.slo 3)],.val (.one .bool),none,false,[]⟩
theorem is5:IsFn Tryz.prog 5 c5:=AP Tryz.func5 rfl rfl
noncomputable def ADV:List (Nat×Fun):=[(60,.code c60),(61,.code c61),(63,.code c63),(34,.code c34),(19,.code c19),(8,.code c8),(14,.code c14),(21,.code c21),(18,.code c18),(27,.code c27),(20,.code c20),(7,.code c7),(12,.code c12),(13,.code c13),(16,.code c16),(17,.code c17),(24,.code c24),(28,.code c28),(30,.code c30),(31,.code c31),(3,.code c3),(4,.code c4),(5,.code c5)]
noncomputable def ABL:List (Nat×Fun):=ADV++jB
noncomputable def AT:Nat->Option Fun:=DQ ABL
set_option maxRecDepth 100000 in
theorem company5:Company Tryz.prog AT:=
 .cons AGH<|.cons AG6<|.cons AFL<|.cons ADT<|.cons AD1<|.cons is8<|.cons AGJ<|.cons AHf<|.cons AJk<|.cons AEv<|.cons AFc<|.cons is7<|.cons AJx<|.cons AFS<|.cons AF6<|.cons AHY<|.cons AHv<|.cons AEb<|.cons AID<|.cons AFb<|.cons is3<|.cons is4<|.cons is5<|YU
theorem Jg:Qi A8 AT:=I8 (by kernel_rfl)
end Go.Proofs.YtjmpnbbeplgchabGreatDoor.M
namespace Go.Proofs.YtjmpnbbeplgchabGreatDoor.M
set_option linter.unusedVariables false
set_option linter.unusedSimpArgs false
open Go Go.Mir
abbrev cQ (b a:LD):=
 rh [hB 6000000 [aL b,aL a]]
abbrev mW (a e:LD)(f:(Int->(Int->Prop)))(c b:Int)(d:(Int->(Int->Nat))):=
 rq (.ptr 6000000 0)/\rq (aL a)/\E5 a/\cQ e a/\f c (wI (b+1))/\((d c (wI (b+1))):Nat)<d c b
def V60 (d b:LD)(R:AV->Prop):Prop:=
 ∃h:Bool,Runs AT 82 (Hr d b) [] (aB h) []/\Ae (Bool.not h) (R (.n (.int .i64 0))) (∃(e:Int->Int->Prop)(f:Int->Int->Nat),(cQ d b/\e 0 0)/\∀(c a:Int),e c a->∀l:Nat->AV,Ae (Bw a b) (rn 1/\(0:Int)<=a/\∃i:D,AX b a i/\∃g:Bool,Dt i g/\Ae (Bool.not g) (rn 1/\(0:Int)<=a/\∃k:D,AX d a k/\∃j:Bool,Dt k j/\Ae (Bool.not j) (rq (.ptr 6000000 0)/\rq (aL b)/\E5 b/\cQ d b/\e (wI (c+1)) (wI (a+1))/\((f (wI (c+1)) (wI (a+1))):Nat)<f c a) (mW b d e c a f)) (mW b d e c a f)) (R (.n (.int .i64 c))))
def ADZ:=λa b c=>PLift.up (by delta V60 Dt AX mW Hr Bw cQ E5;exact rfl:V60 a b c=_)
theorem AFI a b R:Vc AT c60.body (Af c60 [(.agg [aL a,aL b])]) [] (Aq c60 R)=V60 a b R:=by kernel_rfl
abbrev cD (e:AV->Prop)(g i k f d:Int)(b h j:LD)(c a:Int):=
 e (.agg [aI g,aI i,aI k,aI f,aI d,aL b,aL h,aL j,aI c,aI a,aL []])
def V61 (k o:LD)(m c g h j i:Int)(e d f:LD)(a b l n:Int)(R:AV->Prop):Prop:=
 cD R c g h j i e d f a b
def AIE:=λa b c d e f g h i j k l m n o p=>PLift.up (by delta V61 cD;exact rfl:V61 a b c d e f g h i j k l m n o p=_)
theorem AGj a m g d k l p n h e j b c f i R:Vc AT c61.body (Af c61 [(.agg [aL a,(.o (.sl 2 m)),aI g,aI d,aI k,aI l,aI p,aI n,aL h,aL e,aL j,aI b,aI c,aI f,aI i])]) [] (Aq c61 R)=V61 a m g d k l p n h e j b c f i R:=by kernel_rfl
abbrev fM (b a:LD)(c:Int):AV:=
 .agg [aL b,.o (D.sl 2 a),aI c,aI 0,aI 0,aI 0,aI 0,aI 0,aL [],aL [],aL [],aI 0,aI 0,aI 0,aI 0]
abbrev H9:AV:=
 .agg [aL [],.o (D.sl 2 []),aI 0,aI 0,aI 0,aI 0,aI 0,aI 0,aL [],aL [],aL [],aI 0,aI 0,aI 0,aI 0]
abbrev IZ (b:AV->Prop)(a:Int):=
 b (.tup [H9,aI a])
def V63 (b d:LD)(c a:Int)(R:AV->Prop):Prop:=
 Ae (a==140) (R (.tup [fM b d c,aI a])) (IZ R a)
def AFe:=λa b c d e=>PLift.up (by delta V63 fM IZ H9;exact rfl:V63 a b c d e=_)
theorem AE7 a d b c R:Vc AT c63.body (Af c63 [(.agg [aL a,(.o (.sl 2 d)),aI b]),aI c]) [] (Aq c63 R)=V63 a d b c R:=by kernel_rfl
abbrev Bz (f i:LD)(l p h e b j:Int)(m d a:LD)(n g k c:Int):AV:=
 .agg [aL f,.o (D.sl 2 i),aI l,aI p,aI h,aI e,aI b,aI j,aL m,aL d,aL a,aI n,aI g,aI k,aI c]
abbrev Dd (g j:LD)(m p i e b k:Int)(n d a:LD)(o h l c f:Int):AV:=
 .tup [Bz g j m p i e b k n d a o h l c,aI f]
abbrev HM (h:AV->Prop)(k p:LD)(s j f b l q:Int)(e a r:LD)(i m c g d:Int):=
 h (.tup [.agg [aL k,.o (D.sl 2 p),aI s,aI j,aI f,aI b,aI l,aI q,aL e,aL a,aL r,aI i,aI m,aI c,aI g],aI d])
abbrev Vy (t q:LD)(r u:Int)(s:AV->Prop):=
 ∃(c f:LD)(n j l k e p:Int)(b h a:LD)(m g d o i:Int),Runs AT 63 [By t q r,aI u] [] (Dd c f n j l k e p b h a m g d o i) []/\HM s c f n j l k e p b h a m g d o i
abbrev cX (e:AV->Prop)(h k:LD)(p g d b i l:Int)(c a m:LD)(f j:Int):=
 e (.tup [.agg [aL h,.o (D.sl 2 k),aI p,aI g,aI d,aI b,aI i,aI l,aL c,aL a,aL m,aI f,aI j,aI 0,aI 0],aI 0])
def V34 (o u:LD)(z B y v w t:Int)(p q r:LD)(x A:Int)(s:LD)(R:AV->Prop):Prop:=
 ∃(d b:LD)(a l i n g f:Int)(k m h:LD)(e j:Int)(C:LD)(c:Int),Runs AT 50 [By o u z,B8 B y v w t p q r x A s] [] (.tup [By d b a,B8 l i n g f k m h e j C,aI c]) []/\Ae (c != 0) (Vy d b a c R) (cX R d b a l i n g f k m h e j)
def AGT:=λa b c d e f g h i j k l m n o=>PLift.up (by delta V34 HM Vy FY Dd cX By B8 Bz;exact rfl:V34 a b c d e f g h i j k l m n o=_)
theorem AHn a k f h b l m j c d e n g i R:Vc AT c34.body (Af c34 [(.agg [aL a,(.o (.sl 2 k)),aI f]),(.agg [aI h,aI b,aI l,aI m,aI j,aL c,aL d,aL e,aI n,aI g,aL i])]) [] (Aq c34 R)=V34 a k f h b l m j c d e n g i R:=by kernel_rfl
abbrev PT (b a:LD)(c:Int):=
 Runs AT 60 (Hr b a) [] (aI c) []
abbrev bL (e g i:LD)(k f d:Int)(c:AV->Prop):=
 0=0/\∃(h j b a:Int),Runs AT 37 [Bt e g i k f,aL [D.int .i64 d]] [] (.tup [.agg [aI h,aI j,aI b],aI a]) []/\c (.n (.bool (a==0)))
def V19 (f p:LD)(A y z m C B:Int)(c a k:LD)(g d b e:Int)(R:AV->Prop):Prop:=
 ∃(v o j u r:Int)(x l i:LD)(t w:Int)(q:LD),Runs AT 61 [Bz f p A y z m C B c a k g d b e] [] (B8 v o j u r x l i t w q) []/\∃h:Bool,Runs AT 59 [ER f p,B8 v o j u r x l i t w q] [] (aB h) []/\Ae (Bool.not h) (R (.n (.bool false))) (Ae (Q5 d) (R (.n (.bool false))) (Ae (decide (e<0)) (R (.n (.bool false))) (Ae (decide (e > b)) (R (.n (.bool false))) (Ae (decide (b > 8)) (R (.n (.bool false))) (∃s:Int,PT c a s/\Ae (s==0) (R (.n (.bool false))) (bL c a k g d m R))))))
def AEh:=λa b c d e f g h i j k l m n o p=>PLift.up (by delta V19 Bz bL FA FY Hr BI PT ER Q5 B8 Bt;exact rfl:V19 a b c d e f g h i j k l m n o p=_)
theorem AE0 a m g d k l p n h e j b c f i R:Vc AT c19.body (Af c19 [(.agg [aL a,(.o (.sl 2 m)),aI g,aI d,aI k,aI l,aI p,aI n,aL h,aL e,aL j,aI b,aI c,aI f,aI i])]) [] (Aq c19 R)=V19 a m g d k l p n h e j b c f i R:=by kernel_rfl
abbrev aZ:=
 Unit×Unit×Int×Int×Int×Int×Int×Int×Unit×Unit×Unit×Gg
abbrev HT:=
 Int×Int×Int×Int×Int×LD×LD×LD×Int×Int×LD×Unit
abbrev aM (c b:LD)(d:Int)(a:HT):List AV:=
 [By c b d,.agg [aI a.1,aI a.2.1,aI a.2.2.1,aI a.2.2.2.1,aI a.2.2.2.2.1,aL a.2.2.2.2.2.1,aL a.2.2.2.2.2.2.1,aL a.2.2.2.2.2.2.2.1,aI a.2.2.2.2.2.2.2.2.1,aI a.2.2.2.2.2.2.2.2.2.1,aL a.2.2.2.2.2.2.2.2.2.2.1]]
def V8 (e h:LD)(t:Int)(R:AV->Prop):Prop:=
 ∃(u w m s q:Int)(z p v:LD)(r y:Int)(d:LD)(l:Int),Runs AT 9 [ER e h] [] (.tup [B8 u w m s q z p v r y d,aI l]) []/\Ae (l != 0) (IZ R l) (∃(x:Int->aZ->HT->Prop)(J:Int->aZ->HT->Nat),(rh [hB 800000 [aL e,.o (D.sl 2 h),aI t],hB 800001 [.n D.nil,.n D.nil,aI 0,aI 0,aI 0,aI 0,aI 0,aI 0,.n D.nil,.n D.nil,.n D.nil,aI 0,aI 0,aI 0,aI 0],hB 800106 (FY u w m s q z p v r y d)]/\x 0 ((),(),0,0,0,0,0,0,(),(),(),0,0,0,0,()) (u,w,m,s,q,z,p,v,r,y,d,()))/\∀(c:Int)(a:aZ)(b:HT),x c a b->∀Y:Nat->AV,Ae (Bw c d) (rn 1/\(0:Int)<=c/\∃M:D,AX d c M/\∃Q:bA,B7 M Q/\∃(O:LD)(F:Int),Runs AT 10 [aS Q] [] (.tup [.o (D.sl 3 O),aI F]) []/\Ae (F != 0) (R (.tup [H9,aI 120])) (∃(k g i:LD)(f j G:Int),Runs AT 11 [.agg [aL b.2.2.2.2.2.1,aL b.2.2.2.2.2.2.1,aL b.2.2.2.2.2.2.2.1,aI b.2.2.2.2.2.2.2.2.1,aI b.2.2.2.2.2.2.2.2.2.1],.o (D.sl 3 O)] [] (.tup [Bt k g i f j,aI G]) []/\Ae (G != 0) (R (.tup [H9,aI 120])) (rq (.ptr 800000 0)/\rq (.ptr 800001 0)/\rq (.ptr 800106 0)/\rq (aL d)/\E5 d/\rh [hB 800000 [aL e,.o (D.sl 2 h),aI t],hB 800001 [.n D.nil,.n D.nil,aI a.2.2.1,aI a.2.2.2.1,aI a.2.2.2.2.1,aI a.2.2.2.2.2.1,aI a.2.2.2.2.2.2.1,aI a.2.2.2.2.2.2.2.1,.n D.nil,.n D.nil,.n D.nil,aI a.2.2.2.2.2.2.2.2.2.2.2.1,aI a.2.2.2.2.2.2.2.2.2.2.2.2.1,aI a.2.2.2.2.2.2.2.2.2.2.2.2.2.1,aI a.2.2.2.2.2.2.2.2.2.2.2.2.2.2.1],hB 800106 [aI b.1,aI b.2.1,aI b.2.2.1,aI b.2.2.2.1,aI b.2.2.2.2.1,aL k,aL g,aL i,aI f,aI j,aL b.2.2.2.2.2.2.2.2.2.2.1]]/\x (wI (c+1)) ((),(),a.2.2.1,a.2.2.2.1,a.2.2.2.2.1,a.2.2.2.2.2.1,a.2.2.2.2.2.2.1,a.2.2.2.2.2.2.2.1,(),(),(),a.2.2.2.2.2.2.2.2.2.2.2.1,a.2.2.2.2.2.2.2.2.2.2.2.2.1,a.2.2.2.2.2.2.2.2.2.2.2.2.2.1,a.2.2.2.2.2.2.2.2.2.2.2.2.2.2.1,()) (b.1,b.2.1,b.2.2.1,b.2.2.2.1,b.2.2.2.2.1,k,g,i,f,j,b.2.2.2.2.2.2.2.2.2.2.1,())/\((J (wI (c+1)) ((),(),a.2.2.1,a.2.2.2.1,a.2.2.2.2.1,a.2.2.2.2.2.1,a.2.2.2.2.2.2.1,a.2.2.2.2.2.2.2.1,(),(),(),a.2.2.2.2.2.2.2.2.2.2.2.1,a.2.2.2.2.2.2.2.2.2.2.2.2.1,a.2.2.2.2.2.2.2.2.2.2.2.2.2.1,a.2.2.2.2.2.2.2.2.2.2.2.2.2.2.1,()) (b.1,b.2.1,b.2.2.1,b.2.2.2.1,b.2.2.2.2.1,k,g,i,f,j,b.2.2.2.2.2.2.2.2.2.2.1,())):Nat)<J c a b))) (∃(E X:LD)(L K S T B W:Int)(C U V:LD)(H N P I A:Int),Runs AT 34 (aM e h t b) [] (Dd E X L K S T B W C U V H N P I A) []/\HM R E X L K S T B W C U V H N P I A))
def V8e:=λa b c d=>PLift.up (by delta V8 FA BI Gg B8 aM IZ Bw aZ E5 Bz AX Ia B7 H9 HM FY Dd HT By ER Bt;exact rfl:V8 a b c d=_)
theorem vc8 a c b R:Vc AT c8.body (Af c8 [(.agg [aL a,(.o (.sl 2 c)),aI b])]) [] (Aq c8 R)=V8 a c b R:=by kernel_rfl
def V14 (u:Int)(R:AV->Prop):Prop:=
 ∃(q g:LD)(a:Int),Runs AT 15 [aI u] [] (Hu q g a) []/\Ae (a != 0) (IZ R a) (∃(n j:LD)(f e c k t h:Int)(b l s:LD)(i m p r d:Int),Runs AT 8 [.agg [aL q,.o (D.sl 2 g),aI (-1)]] [] (Dd n j f e c k t h b l s i m p r d) []/\HM R n j f e c k t h b l s i m p r d)
def AEi:=λa b=>PLift.up (by delta V14 IZ Hu H9 FA HM Dd ER Bz;exact rfl:V14 a b=_)
theorem AIm a R:Vc AT c14.body (Af c14 [aI a]) [] (Aq c14 R)=V14 a R:=by kernel_rfl
abbrev Kt (g j:LD)(m p i e b k:Int)(n d a:LD)(o h l c:Int)(f:Bool):=
 Runs AT 19 [Bz g j m p i e b k n d a o h l c] [] (aB f) []
abbrev UQ (a:AV->Prop):=
 a (.tup [H9,aI 1])
def V21 (f p:LD)(r h l m u t:Int)(j i k:LD)(g q a v:Int)(R:AV->Prop):Prop:=
 ∃s:Bool,Kt f p r h l m u t j i k g q a v s/\Ae (Bool.not s) (UQ R) (∃(c b:LD)(e d:Int),Runs AT 29 [By f p r] [] (.tup [By c b e,aI d]) []/\Ae (d != 0) (Vy c b e d R) (R (.tup [.agg [aL c,.o (D.sl 2 b),aI e,aI h,aI l,aI m,aI u,aI t,aL j,aL i,aL k,aI g,aI q,aI a,aI a],aI 0])))
def AF7:=λa b c d e f g h i j k l m n o p=>PLift.up (by delta V21 H9 UQ HM Vy Kt Dd By Bz;exact rfl:V21 a b c d e f g h i j k l m n o p=_)
theorem AFu a m g d k l p n h e j b c f i R:Vc AT c21.body (Af c21 [(.agg [aL a,(.o (.sl 2 m)),aI g,aI d,aI k,aI l,aI p,aI n,aL h,aL e,aL j,aI b,aI c,aI f,aI i])]) [] (Aq c21 R)=V21 a m g d k l p n h e j b c f i R:=by kernel_rfl
def V18 (a b:LD)(c f k G y P:Int)(g C i:LD)(A m D u:Int)(R:AV->Prop):Prop:=
 ∃v:Bool,Kt a b c f k G y P g C i A m D u v/\Ae (Bool.not v) (UQ R) (∃(H h r o O:Int)(j B p:LD)(N I:Int)(d:LD),Runs AT 61 [Bz a b c f k G y P g C i A m D u] [] (B8 H h r o O j B p N I d) []/\∃(K x:LD)(n q t M E J:Int)(F s Q:LD)(l z e L w:Int),Runs AT 34 [By a b c,B8 H h r o O j B p N I d] [] (Dd K x n q t M E J F s Q l z e L w) []/\HM R K x n q t M E J F s Q l z e L w)
def AJq:=λa b c d e f g h i j k l m n o p=>PLift.up (by delta V18 H9 UQ HM FY Kt Dd By B8 Bz;exact rfl:V18 a b c d e f g h i j k l m n o p=_)
theorem ADS a m g d k l p n h e j b c f i R:Vc AT c18.body (Af c18 [(.agg [aL a,(.o (.sl 2 m)),aI g,aI d,aI k,aI l,aI p,aI n,aL h,aL e,aL j,aI b,aI c,aI f,aI i])]) [] (Aq c18 R)=V18 a m g d k l p n h e j b c f i R:=by kernel_rfl
abbrev gM (g:AV->Prop)(j m:LD)(r i e b k p:Int)(d a q:LD)(h l c f:Int):=
 g (.tup [.agg [aL j,.o (D.sl 2 m),aI r,aI i,aI e,aI b,aI k,aI p,aL d,aL a,aL q,aI h,aI l,IN c,aI f],aI 0])
abbrev nK (G w y:LD)(H C:Int)(B:LD)(a:AV->Prop)(k d:Int)(t:bA)(s F:LD)(v x z u A E:Int):=
 ∃(f e p:LD)(r l j:Int),Runs AT 11 [Bt G w y H C,.o (D.sl 3 B)] [] (.tup [Bt f e p r l,aI j]) []/\Ae (j != 0) (IZ a j) (∃m:Int,PT f e m/\Ae (m==0) (a (.tup [H9,aI 60])) (∃(q:bA)(i:Int),Runs AT 70 [aI k,aI d,aS t] [] (.tup [aS q,aI i]) []/\Ae (i != 0) (IZ a i) (∃(b g:LD)(h c:Int),Runs AT 71 [By s F v,aI (wI (2+d)),aS q] [] (.tup [By b g h,aI c]) []/\Ae (c != 0) (Vy b g h c a) (gM a b g h k x z u A f e p r l d E))))
def V27 (a b:LD)(c f j A u I:Int)(g x i:LD)(w l d s:Int)(B:LD)(R:AV->Prop):Prop:=
 ∃P:Bool,Kt a b c f j A u I g x i w l d s P/\Ae (Bool.not P) (UQ R) (∃(C:bA)(h:Int),Runs AT 69 [.o (D.sl 3 B)] [] (.tup [aS C,aI h]) []/\Ae (h != 0) (IZ R h) (Ae (d==8) (∃(O M W L S:Int)(N V T:LD)(K U:Int)(Q:LD),Runs AT 61 [Bz a b c f j A u I g x i w l d s] [] (B8 O M W L S N V T K U Q) []/\∃(m n:LD)(r G y E z q:Int)(J k v:LD)(e F t p H:Int),Runs AT 34 [By a b c,B8 O M W L S N V T K U Q] [] (Dd m n r G y E z q J k v e F t p H) []/\Ae (H != 0) (HM R m n r G y E z q J k v e F t p H) (nK J k v e F B R G t C m n r y E z q p)) (nK g x i w l B R f d C a b c j A u I s)))
def ADI:=λa b c d e f g h i j k l m n o p q=>PLift.up (by delta V27 IN Bz nK IZ H9 UQ HM gM Vy Hr FY Kt Dd BI PT By B8 Bt;exact rfl:V27 a b c d e f g h i j k l m n o p q=_)
theorem AFx a n g d k l q p h e j b c f i m R:Vc AT c27.body (Af c27 [(.agg [aL a,(.o (.sl 2 n)),aI g,aI d,aI k,aI l,aI q,aI p,aL h,aL e,aL j,aI b,aI c,aI f,aI i]),(.o (.sl 3 m))]) [] (Aq c27 R)=V27 a n g d k l q p h e j b c f i m R:=by kernel_rfl
def V20 (d f:LD)(r h m p u t:Int)(k i l:LD)(g q j s:Int)(e:LD)(R:AV->Prop):Prop:=
 ∃(c b:LD)(a:Int),Runs AT 62 [ER d f,aL e] [] (Hu c b a) []/\R (.tup [.agg [aL c,.o (D.sl 2 b)],aI a])
def AFP:=λa b c d e f g h i j k l m n o p q=>PLift.up (by delta V20 FA ER Hu;exact rfl:V20 a b c d e f g h i j k l m n o p q=_)
theorem AFm a n g d k l q p h e j b c f i m R:Vc AT c20.body (Af c20 [(.agg [aL a,(.o (.sl 2 n)),aI g,aI d,aI k,aI l,aI q,aI p,aL h,aL e,aL j,aI b,aI c,aI f,aI i]),aL m]) [] (Aq c20 R)=V20 a n g d k l q p h e j b c f i m R:=by kernel_rfl
end Go.Proofs.YtjmpnbbeplgchabGreatDoor.M
