import Derived.Test.YtclgengkohbjjaaGreatDoorR4K
import Derived.Test.YtclgengkohbjjaaGreatDoorR4K6
namespace Go.Proofs.YtclgengkohbjjaaGreatDoor.M
set_option linter.unusedVariables false
set_option linter.unusedSimpArgs false
open Go Go.Mir
set_option linter.unusedVariables false
abbrev qcY_ (p0 p1:ByteArray):=
 (hB 900001 [(.n (.str p0)),(.n (.str p1))])
abbrev qcZ_ (p0 p1:ByteArray):=
 (hB 900002 [(.n (.str p0)),(.n (.str p1))])
def V37h (bad:Int) (pk:ByteArray) (pv:ByteArray) (qk:ByteArray) (qv:ByteArray) (R:Mir.AV→Heap→Prop):Prop:=
 (sel (bad==0) (R (.n (.bool true)) [(qcY_ pk pv),(qcZ_ qk qv)]) (sel (bad==60) (R (.n (.bool true)) [(qcY_ pk pv),(qcZ_ qk qv)]) (sel (bad==1) (∃x0:Bool,((qcH_ pk pv x0)∧(sel x0 (∃x1:Bool,((qcH_ qk qv x1)∧(R (.n (.bool (Bool.not x1))) [(qcY_ pk pv),(qcZ_ qk qv)]))) (R (.n (.bool (Bool.not false))) [(qcY_ pk pv),(qcZ_ qk qv)])))) (R (.n (.bool false)) [(qcY_ pk pv),(qcZ_ qk qv)]))))
def V37he (bad:Int) (pk:ByteArray) (pv:ByteArray) (qk:ByteArray) (qv:ByteArray) (R:Mir.AV→Heap→Prop):=PLift.up (by delta V37h qcZ_ qcH_ qcY_;exact rfl:V37h bad pk pv qk qv R=_)
theorem vc37h (bad:Int) (pk:ByteArray) (pv:ByteArray) (qk:ByteArray) (qv:ByteArray) (R:Mir.AV→Heap→Prop):Vc Fs4 c37.body (argsQ c37 [.n (.int .i64 bad),.ptr 900001 0,.ptr 900002 0]) [(900001,.box [.n (.str pk),.n (.str pv)]),(900002,.box [.n (.str qk),.n (.str qv)])] (endQH c37 [(900001,.box [.n (.str pk),.n (.str pv)]),(900002,.box [.n (.str qk),.n (.str qv)])] R)=V37h bad pk pv qk qv R:=by kernel_rfl
end Go.Proofs.YtclgengkohbjjaaGreatDoor.M
