/- AutomatonClosed: the law itself is walked on the machine. -/
import Derived.Test.YtopngokkgogolaaKSpCloL
import Derived.Test.YtopngokkgogolaaKSpAut
set_option linter.unusedVariables false
set_option linter.unusedSimpArgs false
namespace Go.VS
variable{P:Pg}
def AZ:Sig:=⟨[.val false (.sl (.int .i64)) (.node .brw .leaf),.val false (.int .i64) .leaf,.val false (.sl (.int .i64)) (.node .brw .leaf),.val false (.int .i64) .leaf,.val false .bool .leaf,.val false .bool .leaf],[.val false .bool .leaf]⟩
def HE(P:Pg):Prop:=∀x:List Int×(Int×(List Int×(Int×(Bool×Bool)))),Fn P Zz AZ x fun(d:Bool) _=>d=true
theorem Ki(hL:HE P)(x:List Int×(Int×(List Int×(Int×(Bool×Bool))))):
  Fn P Zz AZ x fun(d:Bool) _=>d=true:=hL x
end Go.VS
