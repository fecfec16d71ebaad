import Derived.Test.YtegndijbpiccgaaGreatDoorMirL
namespace Go.Mir
set_option linter.unusedVariables false
set_option linter.unusedSimpArgs false
abbrev LD:=List Go.Mir.D
@[reducible] def aI (x:Int):AV := .n (.int .i64 x)
@[reducible] def aS (x:bA):AV := .n (.str x)
@[reducible] def aB (x:Bool):AV := .n (.bool x)
@[reducible] def aL (x:LD):AV := .o (.sl 1 x)
@[reducible] def rq (x:AV):Prop:=x=x
@[reducible] def rn (x:Nat):Prop:=x=x
@[reducible] def rh (x:List (Nat×Ob)):Prop:=x=x
@[reducible] def hB (i:Nat)(cs:List AV):Nat×Ob:=(i,.box cs)
@[reducible] def hR (i v e sz:Nat)(l:LD):Nat×Ob:=(i,.row false false v e sz l)
@[reducible] def T (n:Nat):Operand := .tmp n
@[reducible] def N (n:Int):Operand := .const (.int .i64 n)
@[reducible] def sI:Sh := .val (.one (.int .i64))
@[reducible] def sB:Sh := .val (.one .bool)
@[reducible] def sS:Sh := .val (.one .str)
@[reducible] def sL:Sh := .val (.one (.slo 1))
@[reducible] def o (d:Nat)(x:Opn):RO:=⟨some d,x,none,.val (.one .raw)⟩
@[reducible] def m (d t:Nat):RO:=⟨some d,.mov (.tmp t),none,.val (.one .raw)⟩
@[reducible] def mN (d:Nat)(n:Int):RO:=⟨some d,.mov (.const (.int .i64 n)),none,.val (.one .raw)⟩
@[reducible] def u (x:Opn):RO:=⟨none,x,none,.val (.one .raw)⟩
@[reducible] def os (d:Nat)(x:Opn)(s:Sh):RO:=⟨some d,x,none,s⟩
@[reducible] def gd (d:Nat)(x:Opn)(g:Nat)(b:Bool):RO:=⟨some d,x,some (g,b),.val (.one .raw)⟩
@[reducible] def gs (d:Nat)(x:Opn)(g:Nat)(b:Bool)(s:Sh):RO:=⟨some d,x,some (g,b),s⟩
end Go.Mir
